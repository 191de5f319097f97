/-
An abstract machine, and that its runs are runs of the program.
-/
import Derived.Test.YtdckmenbbbfdaaaGreatDoorA1
import Derived.LoopN
namespace Go.AM

def CallPost (β : Inj) (h : AHeap) (w : World) (Q : AV × AHeap → Prop) : Ending → World → Prop := fun e w' =>
  ∃ v h' v' β', Q (v, h') ∧ e = .returned v' ∧ VR β' v v' ∧ TnW β h w β' h' w'

def Enters (P : Program) (f : FuncId) : Prop := ∃ fn, P.funcs[f]? = some fn ∧ fn.body.isSome = true ∧ (fn.name == "runtime.NumGoroutine") = false

def CallsOk (P : Program) (ck : CallK) : Prop :=
  ∀ f args h Q, (ck f args h).all Q → Enters P f ∧ ∀ (β : Inj) (w : World) (args' : Array Value), VRs β args args'.toList → HR β h w.heap → Calls P f args' w (CallPost β h w Q)

structure MtOk (P : Program) (cf : Cfg) : Prop extends RdOk P cf where
  mth : ∀ t n m, cf.mth t n = some m → ∃ ti, P.info? t = some ti ∧ ti.methods.find? (·.name == n) = some m

def NextIs (n : Next) (v : Value) : Prop := n = .value v ∨ (n = .skip ∧ v = undef)

section
variable {P : Program} {cf : Cfg} {β : Inj}

theorem run_enter {f : FuncId} (h : Enters P f) (args : Array Value) (w : World) : (callFunc f args).run P w = .ok (.enter f args) w := by
  obtain ⟨fn, h1, h2, h3⟩ := h
  have h4 : fn.body.isNone = false := by cases hb : fn.body <;> simp_all
  simp only [callFunc, Sem.run_bind, run_program, Result.andThen_ok, h1, h3, h4, Bool.false_eq_true, if_false, Sem.run_pure]

theorem eff_sound (hc : RdOk P cf) {ρA : Operand → AV} {ρ : Operand → Value} (hρ : ∀ x, VR β (ρA x) (ρ x)) {h h' : AHeap} {w : World} (hr : HR β h w.heap)
    {o : Oper} {v : AV} (he : effOp cf ρA h o.op = some (v, h')) :
    ∃ nx v' w' β', (execOp ρ o).run P w = .ok nx w' ∧ NextIs nx v' ∧ VR β' v v' ∧ TnW β h w β' h' w' := by
  obtain ⟨dst, op, ty, pos, after, guard⟩ := o
  simp only at he
  cases op <;> simp only [effOp] at he <;> try (simp at he; done)
  case store t a x =>
    split at he
    · rename_i p hp
      replace he := opt_do he
      obtain ⟨i, hi, he⟩ := he
      replace he := opt_do he
      obtain ⟨h2, hst, he⟩ := he
      simp at he
      obtain ⟨rfl, rfl⟩ := he
      have ha := hρ a
      rw [hp] at ha
      generalize hcc : ρ a = cv at ha
      obtain ⟨b, o⟩ := p
      cases ha with
      | @ptr _ _ B O N hb =>
        obtain ⟨w', g1, g2⟩ := stVar_sound (P := P) (w := w) (hc.ty _ _ hi) hst hr hb (hρ x)
        exact ⟨.skip, undef, w', β, by simp [execOp, Instr.storeAt, Instr.sureAddr, hcc, g1], .inr ⟨rfl, rfl⟩, .tuple .nil, g2⟩
    · simp at he
  case mapUpdate t m k x =>
    obtain ⟨h2, hm, he⟩ := opt_map he
    simp at he
    obtain ⟨rfl, rfl⟩ := he
    obtain ⟨w', g1, g2⟩ := mapUpdateA_sound (P := P) (w := w) hc hm (hρ m) (hρ k) (hρ x) hr
    exact ⟨.skip, undef, w', β, by simp [execOp, g1], .inr ⟨rfl, rfl⟩, .tuple .nil, g2⟩
  case insert t m k x =>
    obtain ⟨h2, hm, he⟩ := opt_map he
    simp at he
    obtain ⟨rfl, rfl⟩ := he
    obtain ⟨w', g1, g2⟩ := mapUpdateA_sound (P := P) (w := w) hc hm (hρ m) (hρ k) (hρ x) hr
    exact ⟨.skip, undef, w', β, by simp [execOp, g1], .inr ⟨rfl, rfl⟩, .tuple .nil, g2⟩
  case mapEntry t m k =>
    obtain ⟨x', w', g1, g2, g3⟩ := mapEntryA_sound (P := P) (w := w) hc he (hρ m) (hρ k) hr
    exact ⟨.value x', x', w', β, by simp [execOp, g1], .inl rfl, g2, g3⟩
  case entryStore t m s x =>
    obtain ⟨h2, hm, he⟩ := opt_map he
    simp at he
    obtain ⟨rfl, rfl⟩ := he
    obtain ⟨w', g1, g2⟩ := entryStoreA_sound (P := P) (w := w) (t := t) hm (hρ m) (hρ s) (hρ x) hr
    exact ⟨.skip, undef, w', β, by simp [execOp, g1], .inr ⟨rfl, rfl⟩, .tuple .nil, g2⟩
  case range t x =>
    obtain ⟨v', w', β', g1, g2, g3⟩ := rangeA_sound (P := P) (w := w) hc he (hρ x) hr
    exact ⟨.value v', v', w', β', by simp [execOp, g1], .inl rfl, g2, g3⟩
  case call c =>
    obtain ⟨callee, args, argTypes⟩ := c
    simp only at he
    have hargs : VRs β (args.toList.map ρA) (args.map ρ).toList := by simpa using VRs.map hρ args.toList
    split at he
    · obtain ⟨v', w', β', g1, g2, g3⟩ := appendA_sound (P := P) (w := w) hc ty he hargs hr
      exact ⟨.value v', v', w', β', by simp [execOp, resolve, invoke, builtin, g1], .inl rfl, g2, g3⟩
    · obtain ⟨v', w', g1, g2, g3⟩ := copyA_sound (P := P) (w := w) hc ty he hargs hr
      exact ⟨.value v', v', w', β, by simp [execOp, resolve, invoke, builtin, g1], .inl rfl, g2, g3⟩
    · obtain ⟨v', w', g1, g2, g3⟩ := clearA_sound (P := P) (w := w) hc ty he hargs hr
      exact ⟨.value v', v', w', β, by simp [execOp, resolve, invoke, builtin, g1], .inl rfl, g2, g3⟩
    · obtain ⟨v', w', g1, g2, g3⟩ := deleteA_sound (P := P) (w := w) hc ty he hargs hr
      exact ⟨.value v', v', w', β, by simp [execOp, resolve, invoke, builtin, g1], .inl rfl, g2, g3⟩
    · simp at he

/-- Places. -/
inductive PR (β : Inj) : APlace → Place → Prop where
  | val {v : AV} {v' : Value} (h : VR β v v') : PR β (.val v) (.val v')
  | var {b o B O N : Nat} (h : β b = some (B, O, N)) : PR β (.var (b, o)) (.var ⟨B, O + o, none⟩)

theorem place_get (hc : RdOk P cf) {h : AHeap} {w : World} {t : TypeId} {x : APlace} {x' : Place} {v : AV} (he : x.get cf h t = some v) (hx : PR β x x') (hr : HR β h w.heap) :
    ∃ v', (x'.get t).run P w = .ok v' w ∧ VR β v v' := by
  cases hx with
  | val hv => simp [APlace.get] at he; subst he; exact ⟨_, rfl, hv⟩
  | var hb =>
    simp only [APlace.get] at he
    obtain ⟨i, hi, he⟩ := opt_bind he
    obtain ⟨v', g1, g2⟩ := ldVar_sound (P := P) he (hc.ty _ _ hi) hr hb
    exact ⟨v', g1, g2⟩

theorem followA_sound (hc : RdOk P cf) {h : AHeap} {w : World} (hr : HR β h w.heap) : ∀ {l : List FieldStep} {t : TypeId} {x : APlace} {x' : Place} {t2 : TypeId} {y : APlace},
    followA cf h l t x = some (t2, y) → PR β x x' → ∃ y', (follow l t x').run P w = .ok (t2, y') w ∧ PR β y y'
  | [], t, x, x', t2, y, he, hx => by
    simp [followA] at he
    obtain ⟨rfl, rfl⟩ := he
    exact ⟨x', rfl, hx⟩
  | s :: rest, t, x, x', t2, y, he, hx => by
    simp only [followA] at he
    split at he
    · rename_i off j fs hfo htd
      obtain ⟨fields, F, hu, hF, hoff, hj⟩ := fieldOff_sound hc hfo
      obtain ⟨d, hu', hd⟩ := td_ok hc htd
      rw [hu] at hu'
      injection hu' with hu'
      subst hu'
      obtain ⟨fields', hfe, hm⟩ := tdOf_struct hd
      injection hfe with hfe
      subst hfe
      split at he
      · simp at he
      · rename_i p hp
        have hpt : p.2 = F.type := by
          rw [← hm, List.getElem?_map] at hp
          have : fields.toList[s.index]? = some F := by simpa using hF
          rw [this] at hp
          simp at hp
          rw [← hp]
        split at he
        · simp at he
        · rename_i hz
          rw [hpt] at he
          split at he
          · rename_i hder
            split at he
            · rename_i a hga
              obtain ⟨v', g1, g2⟩ := place_get (P := P) (w := w) hc hga hx hr
              obtain ⟨b, o⟩ := a
              cases g2 with
              | @ptr _ _ B O N hb =>
                obtain ⟨y', q1, q2⟩ := followA_sound hc hr (x' := .var ⟨B, O + (o + off), none⟩) he (.var hb)
                refine ⟨y', ?_, q2⟩
                simp only [follow, Sem.run_bind, run_und hu, Result.andThen_ok, hF, hder, if_true, g1, asAddr, Sem.run_pure, fieldPlace_sound hj hz, add_none, hoff]
                rw [Nat.add_assoc]; exact q1
            · simp at he
          · rename_i hder
            split at he
            · rename_i a
              cases hx with
              | @var b o B O N hb =>
                obtain ⟨y', q1, q2⟩ := followA_sound hc hr (x' := .var ⟨B, O + (o + off), none⟩) he (.var hb)
                refine ⟨y', ?_, q2⟩
                simp only [follow, Sem.run_bind, run_und hu, Result.andThen_ok, hF, hder, if_false, fieldPlace_sound hj hz, add_none, hoff, Bool.false_eq_true]
                rw [Nat.add_assoc]; exact q1
            · rename_i cs
              cases hx with
              | val hv =>
                cases hv with
                | agg h1 h2 =>
                  split at he
                  · rename_i v hpv
                    obtain ⟨v', g1, g2⟩ := partA_sound (P := P) (w := w) hj hpv h1 h2
                    obtain ⟨y', q1, q2⟩ := followA_sound hc hr (x' := .val v') he (.val g2)
                    refine ⟨y', ?_, q2⟩
                    subst hoff
                    simp only [follow, Sem.run_bind, run_und hu, Result.andThen_ok, hF, hder, if_false, g1, q1, Bool.false_eq_true]
                  · simp at he
            · simp at he
    · simp at he

theorem receiverA_sound (hc : RdOk P cf) {h : AHeap} {w : World} (hr : HR β h w.heap) {xt : TypeId} {x : APlace} {x' : Place} {p : Bool} {r : AV}
    (he : receiverA cf h xt x p = some r) (hx : PR β x x') (nm : Option String) : ∃ r', (receiverAt xt x' p nm).run P w = .ok r' w ∧ VR β r r' := by
  unfold receiverA at he
  split at he
  · rename_i e htd
    obtain ⟨d, hu, hd⟩ := td_ok hc htd
    have := tdOf_ptr hd; subst this
    obtain ⟨v', g1, g2⟩ := place_get (P := P) (w := w) hc he hx hr
    exact ⟨v', by simp only [receiverAt, Sem.run_bind, run_und hu, Result.andThen_ok, g1], g2⟩
  · rename_i e htd
    obtain ⟨d, hu, hd⟩ := td_ok hc htd
    have := tdOf_ptr hd; subst this
    split at he
    · rename_i a hga
      obtain ⟨i, hi, he⟩ := opt_bind he
      obtain ⟨v', g1, g2⟩ := place_get (P := P) (w := w) hc hga hx hr
      obtain ⟨b, o⟩ := a
      cases g2 with
      | @ptr _ _ B O N hb =>
        obtain ⟨r', q1, q2⟩ := ldVar_sound (P := P) he (hc.ty _ _ hi) hr hb
        refine ⟨r', ?_, q2⟩
        cases nm with
        | none => simp only [receiverAt, Sem.run_bind, run_und hu, Result.andThen_ok, g1, Sem.run_pure, asAddr, q1]
        | some nm =>
          have hw : Builtin.ssaWrapNilChk_ #[xt] xt #[.pointer (some ⟨B, O + o, none⟩), strVal "", strVal nm] = pure (.pointer (some ⟨B, O + o, none⟩)) := rfl
          simp only [receiverAt, Sem.run_bind, run_und hu, Result.andThen_ok, g1, Sem.run_pure, asAddr, q1, hw]
    · simp at he
  · rename_i d0 a hnp htd
    obtain ⟨d, hu, hd⟩ := td_ok hc htd
    injection he with he; subst he
    cases hx with
    | @var b o B O N hb =>
      refine ⟨_, ?_, .ptr hb⟩
      cases d <;> first
        | (simp [tdOf] at hd; exact (hnp _ hd.symm).elim)
        | (simp only [receiverAt, Sem.run_bind, run_und hu, Result.andThen_ok]; rfl)
  · rename_i d0 hnp htd
    obtain ⟨d, hu, hd⟩ := td_ok hc htd
    obtain ⟨v', g1, g2⟩ := place_get (P := P) (w := w) hc he hx hr
    refine ⟨v', ?_, g2⟩
    cases d <;> first
      | (simp [tdOf] at hd; exact (hnp _ hd.symm).elim)
      | (simp only [receiverAt, Sem.run_bind, run_und hu, Result.andThen_ok, g1])
  · simp at he

theorem methodA_sound (hc : MtOk P cf) {h : AHeap} {w : World} (hr : HR β h w.heap) : ∀ {n : Nat} {t : TypeId} {v : AV} {v' : Value} {name : String} {f : FuncId} {r : AV},
    methodA cf h n t v name = some (f, r) → VR β v v' → ∀ N, n ≤ N → ∃ r', (method N t v' name).run P w = .ok (f, r') w ∧ VR β r r'
  | 0, _, _, _, _, _, _, he, _ => by simp [methodA] at he
  | n + 1, t, v, v', name, f, r, he, hv => by
    intro N hN
    obtain ⟨N, rfl⟩ : ∃ k, N = k + 1 := ⟨N - 1, by omega⟩
    simp only [methodA] at he
    split at he
    · simp at he
    · rename_i m hm
      obtain ⟨ti, hti, hfind⟩ := hc.mth _ _ _ hm
      split at he
      · simp at he
      · rename_i xt x hfo
        obtain ⟨y', q1, q2⟩ := followA_sound (P := P) (w := w) hc.toRdOk hr hfo (.val hv)
        split at he
        · rename_i hfn
          split at he
          · rename_i t2 v2 hg
            obtain ⟨u', g1, g2⟩ := place_get (P := P) (w := w) hc.toRdOk hg q2 hr
            cases g2 with
            | iface _ hv2 =>
              obtain ⟨r', k1, k2⟩ := methodA_sound hc hr he hv2 N (by omega)
              refine ⟨r', ?_, k2⟩
              simp only [method, Sem.run_bind, run_tinfo hti, Result.andThen_ok, hfind, q1, hfn, g1, k1]
          · simp at he
        · rename_i f2 p hfn
          obtain ⟨r2, hr2, he⟩ := opt_map he
          simp at he
          obtain ⟨rfl, rfl⟩ := he
          obtain ⟨r', k1, k2⟩ := receiverA_sound (P := P) (w := w) hc.toRdOk hr hr2 q2 (if m.path.isEmpty then some ((name.splitOn ".").getLastD name) else none)
          refine ⟨r', ?_, k2⟩
          simp only [method, Sem.run_bind, run_tinfo hti, Result.andThen_ok, hfind, q1, hfn, k1, Sem.run_pure]

end
end Go.AM
namespace Go.AM

def FR (β : Inj) (fr : Fr) (tmps : Array Value) : Prop := ∀ t, VR β (fr.get t) (tmps.getD t undef)

theorem FR.mono {β β' : Inj} (hb : β.le β') {fr : Fr} {tmps : Array Value} (h : FR β fr tmps) : FR β' fr tmps := fun t => (h t).mono hb

theorem Fr.get_put (fr : Fr) (n : Nat) (v : AV) (t : Nat) : (fr.put n v).get t = if t = n then v else fr.get t := by
  induction fr with
  | nil => simp only [Fr.put, Fr.get, bcond]; split <;> split <;> simp_all
  | cons p fr ih =>
    obtain ⟨k, u⟩ := p
    simp only [Fr.put, bcond, bcondlt]
    split
    · simp only [Fr.get, bcond]
      by_cases h : t = n
      · subst h; simp
      · rw [if_neg h, if_neg (fun e => h e.symm)]
    · split
      · rename_i h1 h2
        subst h2
        simp only [Fr.get, bcond]
        by_cases h : t = n
        · subst h; simp
        · rw [if_neg h, if_neg (fun e => h e.symm), if_neg (fun e => h e.symm)]
      · rename_i h1 h2
        simp only [Fr.get, bcond, ih]
        by_cases h : k = t
        · subst h
          rw [if_pos rfl, if_neg (fun e => h2 e.symm), if_pos rfl]
        · rw [if_neg h, if_neg h]

theorem Fr.get_filter (p : Nat → Bool) (fr : Fr) (t : Nat) : Fr.get (fr.filter fun q => p q.1) t = if p t then fr.get t else .dead := by
  induction fr with
  | nil => simp [Fr.get]
  | cons q fr ih =>
    obtain ⟨k, u⟩ := q
    simp only [List.filter_cons]
    split
    · rename_i hk
      simp only [Fr.get, bcond, ih]
      by_cases h : k = t
      · subst h; simp [hk]
      · rw [if_neg h, if_neg h]
    · rename_i hk
      rw [ih]
      simp only [Fr.get, bcond]
      by_cases h : k = t
      · subst h; simp at hk; simp [hk]
      · rw [if_neg h]

section
variable {P : Program} {cf : Cfg} {β : Inj}

theorem FR.keep {fr : Fr} {tmps : Array Value} (h : FR β fr tmps) (ks : Option Nat) : FR β (fr.keep ks) tmps := by
  intro t
  cases ks with
  | none => exact h t
  | some l =>
    simp only [Fr.keep, Fr.keepM_eq]
    rw [Fr.get_filter (fun n => l.testBit n)]
    split
    · exact h t
    · exact .dead _

theorem getD_set (tmps : Array Value) (d : Nat) (v : Value) (t : Nat) (hd : d < tmps.size) :
    (tmps.setIfInBounds d v).getD t undef = if t = d then v else tmps.getD t undef := by
  simp only [Array.getD_eq_getD_getElem?, Array.getElem?_setIfInBounds]
  by_cases h : d = t
  · subst h; simp [hd]
  · rw [if_neg h, if_neg (fun e => h e.symm)]

theorem FR.put {fr : Fr} {tmps : Array Value} (h : FR β fr tmps) {d : Nat} {v : AV} {v' : Value} (hv : VR β v v') (hd : d < tmps.size) :
    FR β (fr.put d v) (tmps.setIfInBounds d v') := by
  intro t
  rw [Fr.get_put, getD_set _ _ _ _ hd]
  split
  · exact hv
  · exact h t

def dstOk (n : Nat) (d : Option Nat) : Prop := ∀ x, d = some x → x < n

theorem FR.putD {fr : Fr} {a : Act} (h : FR β fr a.tmps) {d : Option Nat} {v : AV} {v' : Value} (hv : VR β v v') (hd : dstOk a.tmps.size d) :
    FR β (AM.putD fr d v) (a.put d v').tmps := by
  cases d with
  | none => exact h
  | some d => exact h.put hv (hd d rfl)

theorem put_size (a : Act) (d : Option Nat) (v : Value) : (a.put d v).tmps.size = a.tmps.size := by
  cases d <;> simp [Act.put]

theorem put_defers (a : Act) (d : Option Nat) (v : Value) : (a.put d v).defers = a.defers := by
  cases d <;> rfl

theorem ev_sound {fr : Fr} {a : Act} (h : FR β fr a.tmps) (x : Operand) : VR β (ev fr x) (a.eval x) := by
  cases x with
  | tmp t => exact h t
  | const v => exact constAV_sound β v
  | global g => exact .dead _
  | func f => exact .func _ (by simpa using VRs.nil) (by simpa using VRs.nil)

theorem wanted_sound {ops : Array Oper} {fr : Fr} {tmps : Array Value} (h : FR β fr tmps) {o : Oper} {b : Bool} (he : wantedA ops fr o = some b) :
    Region.wanted o (yielded ops tmps) = b := by
  unfold wantedA at he
  unfold Region.wanted
  split at he
  · rename_i hg; rw [hg]; simpa using he
  · rename_i j want hg
    rw [hg]
    simp only
    split at he
    · simp at he
    · rename_i d hd
      have hv := h d
      split at he
      · rename_i c hc
        rw [hc] at hv
        injection he with he
        have : tmps[d]? = some (.bool c) := by
          rw [Array.getD_eq_getD_getElem?] at hv
          cases hx : tmps[d]? with
          | none => rw [hx] at hv; simp [undef] at hv; cases hv
          | some y => rw [hx] at hv; simp at hv; cases hv; rfl
        simp only [yielded, hd, Option.bind_some, this]
        rw [← he]
        cases c <;> cases want <;> rfl
      · rename_i hc
        rw [hc] at hv
        injection he with he
        have : ∀ c, tmps[d]? ≠ some (.bool c) := by
          intro c hx
          rw [Array.getD_eq_getD_getElem?, hx] at hv
          simp at hv
          cases hv
        simp only [yielded, hd, Option.bind_some]
        rw [← he]
        first
          | (split
             · rename_i c hx; exact absurd hx (this c)
             · rfl)
          | (cases want <;> rfl)
      · simp at he

theorem targetA_sound (hc : MtOk P cf) {ρA : Operand → AV} {ρ : Operand → Value} (hρ : ∀ x, VR β (ρA x) (ρ x)) {h : AHeap} {w : World} (hr : HR β h w.heap)
    {c : Call} {f : FuncId} {args : List AV} (u : TypeId) (he : targetA cf ρA h c = some (f, args)) (hen : Enters P f) :
    ∃ args', (do let d ← resolve ρ c u; invoke d.target d.args : Sem Next).run P w = .ok (.enter f args') w ∧ VRs β args args'.toList := by
  obtain ⟨callee, cargs, ctys⟩ := c
  unfold targetA at he
  have hargs : VRs β (cargs.toList.map ρA) (cargs.map ρ).toList := by simpa using VRs.map hρ cargs.toList
  cases callee with
  | builtin b => simp at he
  | value x =>
    simp only at he
    split at he
    · rename_i g first captured hx
      simp at he
      obtain ⟨rfl, rfl⟩ := he
      have hv := hρ x
      rw [hx] at hv
      generalize hcc : ρ x = cv at hv
      cases hv with
      | func _ h1 h2 =>
        rename_i a' c'
        refine ⟨a' ++ cargs.map ρ ++ c', ?_, ?_⟩
        · simp only [resolve, hcc, Deferred.ofValue, Sem.run_bind, Sem.run_pure, Result.andThen_ok, invoke, run_enter hen]
        · simpa using h1.append (hargs.append h2)
    · simp at he
  | invoke x name =>
    simp only at he
    split at he
    · rename_i t v hx
      obtain ⟨p, hp, he⟩ := opt_map he
      obtain ⟨f2, r⟩ := p
      simp at he
      obtain ⟨rfl, rfl⟩ := he
      have hv := hρ x
      rw [hx] at hv
      generalize hcc : ρ x = cv at hv
      cases hv with
      | iface _ hv =>
        rename_i v'
        obtain ⟨r', g1, g2⟩ := methodA_sound (w := w) hc hr hp hv (P.types.size + Made.depth) (by simp only [Made.depth]; omega)
        refine ⟨#[r'] ++ cargs.map ρ, ?_, ?_⟩
        · have hex : (#[Value.iface t v'] ++ cargs.map ρ).extract 1 (#[Value.iface t v'] ++ cargs.map ρ).size = cargs.map ρ := by
            generalize cargs.map ρ = xs
            obtain ⟨l⟩ := xs
            simp
          have h0 : (#[Value.iface t v'] ++ cargs.map ρ)[0]? = some (.iface t v') := by
            generalize cargs.map ρ = xs
            obtain ⟨l⟩ := xs
            simp
          simp only [resolve, hcc, Sem.run_bind, Sem.run_pure, Result.andThen_ok, invoke, h0, hex, callMethod, run_program, g1, run_enter hen]
        · simpa using VRs.cons g2 hargs
    · simp at he

theorem upon_next {o : Oper} {a : Act} {K : Act → World → Prop} {Qx : Exit → Act → World → Prop} {w w' : World} {nx : Next} {v' : Value}
    (hrun : (execOp a.eval o).run P w = .ok nx w') (hn : NextIs nx v') (hk : K (a.put o.dst v') w') : o.wp P a w K Qx := by
  unfold Oper.wp
  rw [hrun]
  rcases hn with rfl | ⟨rfl, rfl⟩
  · exact hk
  · exact hk

theorem stepN_sound (hc : RdOk P cf) {a : Act} {fr : Fr} {h h' : AHeap} {w : World} (hfr : FR β fr a.tmps) (hr : HR β h w.heap) {o : Oper} {v : AV} {m : Bool}
    (he : stepN cf (ev fr) h o.op = some (v, h', m)) : ∃ v' w' β', (execOp a.eval o).run P w = .ok (.value v') w' ∧ VR β' v v' ∧ TnW β h w β' h' w' := by
  unfold stepN at he
  split at he
  · rename_i v0 hv0
    simp at he
    obtain ⟨rfl, rfl, rfl⟩ := he
    obtain ⟨v', g1, g2⟩ := read_sound (P := P) (w := w) hc (ev_sound hfr) hr hv0
    exact ⟨v', w, β, g1, g2, .refl hr⟩
  · obtain ⟨p, hp, he⟩ := opt_map he
    obtain ⟨v0, h0⟩ := p
    simp at he
    obtain ⟨rfl, rfl, rfl⟩ := he
    obtain ⟨β', v', w', g1, g2, g3⟩ := (alloc_sound hc (ev_sound hfr) (w := w) hp).tn hr
    exact ⟨v', w', β', g1, g2, g3⟩

theorem stepE_sound (hc : MtOk P cf) {ck : CallK} (hck : CallsOk P ck) {a : Act} {fr : Fr} {h : AHeap} {w : World} (hfr : FR β fr a.tmps) (hr : HR β h w.heap) {o : Oper}
    {Q : AV × AHeap → Prop} (he : (stepE cf ck (ev fr) h o.op).all Q) {K : Act → World → Prop} {Qx : Exit → Act → World → Prop}
    (hk : ∀ v h' v' β' w', Q (v, h') → VR β' v v' → TnW β h w β' h' w' → K (a.put o.dst v') w') : o.wp P a w K Qx := by
  have hρ := ev_sound hfr
  have heff : (Comp.of "eff" (effOp cf (ev fr) h o.op)).all Q → o.wp P a w K Qx := by
    intro he
    obtain ⟨p, hp, hq⟩ := Comp.all_of.1 he
    obtain ⟨v, h'⟩ := p
    obtain ⟨nx, v', w', β', g1, g2, g3, g4⟩ := eff_sound hc.toRdOk hρ hr hp
    exact upon_next g1 g2 (hk _ _ _ _ _ hq g3 g4)
  obtain ⟨dst, op, ty, pos, after, guard⟩ := o
  simp only at he heff hk ⊢
  unfold stepE at he
  split at he
  · rename_i it
    obtain ⟨v, h', v', w', q, g1, g2, g3⟩ := nextA_sound (P := P) ty he (hρ it) hr
    refine upon_next (nx := .value v') (w' := w') ?_ (.inl rfl) (hk _ _ _ _ _ q g2 g3)
    simp [execOp, g1]
  · rename_i c
    split at he
    · exact heff he
    · split at he
      · rename_i f args ht
        obtain ⟨hen, hcalls⟩ := hck _ _ _ _ he
        obtain ⟨args', g1, g2⟩ := targetA_sound (P := P) (w := w) hc hρ hr ty ht hen
        have := hcalls β w args' g2 hr
        unfold Oper.wp
        simp only [execOp]
        rw [g1]
        refine Calls.mono this ?_
        rintro e w' ⟨v, h', v', β', q, rfl, hv, ht⟩
        exact hk _ _ _ _ _ q hv ht
      · exact he.elim
  · exact heff he

theorem stepOp_sound (hc : MtOk P cf) {ck : CallK} (hck : CallsOk P ck) {a : Act} {fr : Fr} {h : AHeap} {w : World} (hfr : FR β fr a.tmps) (hr : HR β h w.heap) {o : Oper}
    {Q : AV × AHeap → Prop} (he : (stepOp cf ck (ev fr) h o.op).all Q) {K : Act → World → Prop} {Qx : Exit → Act → World → Prop}
    (hk : ∀ v h' v' β' w', Q (v, h') → VR β' v v' → TnW β h w β' h' w' → K (a.put o.dst v') w') : o.wp P a w K Qx := by
  unfold stepOp at he
  split at he
  · exact stepE_sound hc hck hfr hr he hk
  · obtain ⟨p, hp, hq⟩ := Comp.all_of.1 he
    obtain ⟨q, hq1, rfl⟩ := opt_map hp
    obtain ⟨v, h', m⟩ := q
    obtain ⟨v', w', β', g1, g2, g3⟩ := stepN_sound (P := P) hc.toRdOk hfr hr hq1
    exact upon_next g1 (.inl rfl) (hk _ _ _ _ _ hq g2 g3)

def opsOk (n : Nat) (ops : Array Oper) : Prop := ∀ (i : Nat) (o : Oper), ops[i]? = some o → dstOk n o.dst

theorem execOps_sound (hc : MtOk P cf) {ck : CallK} (hck : CallsOk P ck) {ops : Array Oper} {Qx : Exit → Act → World → Prop} {Q : Fr × AHeap → Prop} :
    ∀ (l : List Oper) (i : Nat) (fr : Fr) (h : AHeap) (β : Inj) (a : Act) (w : World), ops.toList.drop i = l → (execOps cf ck ops l fr h).all Q → FR β fr a.tmps → HR β h w.heap →
      opsOk a.tmps.size ops →
      (∀ fr' h' β' a' w', Q (fr', h') → FR β' fr' a'.tmps → TnW β h w β' h' w' → a'.tmps.size = a.tmps.size → a'.defers = a.defers → Qx .normal a' w') →
      wpOps P ops Qx (List.range' i (ops.size - i)) a w
  | [], i, fr, h, β, a, w, hl, he, hfr, hr, hok, hk => by
    have hlen : ops.size ≤ i := by
      have := congrArg List.length hl
      simp at this; omega
    have : ops.size - i = 0 := by omega
    rw [this]
    exact hk fr h β a w he hfr (.refl hr) rfl rfl
  | o :: rest, i, fr, h, β, a, w, hl, he, hfr, hr, hok, hk => by
    have hi : ops[i]? = some o := by
      have : (ops.toList.drop i)[0]? = some o := by rw [hl]; rfl
      rw [List.getElem?_drop] at this
      simpa using this
    have hlt : i < ops.size := (Array.getElem?_eq_some_iff.1 hi).1
    have hrest : ops.toList.drop (i + 1) = rest := by
      rw [← List.tail_drop, hl]; rfl
    have hrange : List.range' i (ops.size - i) = i :: List.range' (i + 1) (ops.size - (i + 1)) := by
      obtain ⟨k, hk⟩ : ∃ k, ops.size - i = k + 1 := ⟨ops.size - i - 1, by omega⟩
      rw [hk, List.range'_succ, show ops.size - (i + 1) = k by omega]
    rw [hrange]
    simp only [wpOps, hi]
    simp only [execOps] at he
    split at he
    · exact he.elim
    · rename_i hw
      rw [wanted_sound hfr hw]
      simp only [Bool.false_eq_true, if_false]
      refine execOps_sound hc hck rest (i + 1) _ h β _ w hrest he (hfr.putD (.tuple .nil) (hok _ _ hi)) hr (by rw [put_size]; exact hok) ?_
      intro fr' h' β' a' w' q1 q2 q3 q4 q5
      exact hk fr' h' β' a' w' q1 q2 q3 (by rw [q4, put_size]) (by rw [q5, put_defers])
    · rename_i hw
      rw [wanted_sound hfr hw]
      simp only [if_true]
      left
      refine stepOp_sound hc hck hfr hr (Comp.all_bind.1 he) ?_
      intro v h' v' β' w' hq hv ht
      refine execOps_sound hc hck rest (i + 1) _ h' β' _ w' hrest hq ((hfr.mono ht.ext).putD hv (hok _ _ hi)) ht.rel (by rw [put_size]; exact hok) ?_
      intro fr' h2 β2 a' w2 q1 q2 q3 q4 q5
      exact hk fr' h2 β2 a' w2 q1 q2 (ht.trans q3) (by rw [q4, put_size]) (by rw [q5, put_defers])
end
end Go.AM
namespace Go.AM

def HeapLe (h h' : AHeap) : Prop := ∀ b o, h.get b = some o → h'.get b = some o

theorem HeapLe.push {h : AHeap} (hf : h.get h.next = none) (o : AObj) : HeapLe h (h.push o) := by
  intro b x hx
  rw [AHeap.get_push]
  split
  · rename_i e; subst e; rw [hf] at hx; simp at hx
  · exact hx

section
variable {cf : Cfg} {h h' : AHeap}

theorem ldVar_mono (hl : HeapLe h h') {i : TI} {a : Nat × Nat} {v : AV} (he : ldVar i h a = some v) : ldVar i h' a = some v := by
  unfold ldVar at he ⊢
  cases hg : h.get a.1 with
  | none => rw [hg] at he; simp at he
  | some o => rw [hl _ _ hg]; rw [hg] at he; exact he

theorem ldCells_mono (hl : HeapLe h h') {a : Nat × Nat} {n : Nat} {v : List AV} (he : ldCells h a n = some v) : ldCells h' a n = some v := by
  unfold ldCells at he ⊢
  cases hg : h.get a.1 with
  | none => rw [hg] at he; simp at he
  | some o => rw [hl _ _ hg]; rw [hg] at he; exact he

theorem eqlOp_mono (hl : HeapLe h h') {t : TypeId} {lit : Bool} {x y : AV} {b : Bool} (he : eqlOp cf h t lit x y = some b) : eqlOp cf h' t lit x y = some b := by
  unfold eqlOp at he ⊢
  cases hi : cf.ty t with
  | none => rw [hi] at he; simp at he
  | some i =>
    rw [hi] at he
    simp only at he ⊢
    split at he
    case h_4 e a b' hd =>
      cases hj : cf.ty e with
      | none => rw [hj] at he; simp at he
      | some j =>
        rw [hj] at he
        simp only at he ⊢
        split at he
        · simp at he
        · rename_i hz
          rw [if_neg hz]
          split at he
          · rename_i hab; rw [if_pos hab]; exact he
          · rename_i hab
            rw [if_neg hab]
            split at he
            · rename_i g1 g2
              rw [hl _ _ g1, hl _ _ g2]; exact he
            · simp at he
    case h_16 => simp at he
    all_goals exact he

theorem binA_mono (hl : HeapLe h h') {op : BinOp} {t : TypeId} {lit : Bool} {x y v : AV} (he : binA cf h op t lit x y = some v) : binA cf h' op t lit x y = some v := by
  unfold binA at he ⊢
  split at he
  · exact he
  · exact he
  · rename_i h1 h2 _; exact he
  · exact he
  · rename_i h1 h2
    obtain ⟨b, hb, rfl⟩ := opt_map he
    simp only [eqlOp_mono hl hb]; rfl
  · obtain ⟨b, hb, rfl⟩ := opt_map he
    simp only [eqlOp_mono hl hb]; rfl
  · simp at he

theorem convA_mono (hl : HeapLe h h') {s d : TypeId} {x v : AV} (he : convA cf h s d x = some v) : convA cf h' s d x = some v := by
  unfold convA at he ⊢
  replace he := opt_do he
  obtain ⟨i, hi, he⟩ := he
  replace he := opt_do he
  obtain ⟨j, hj, he⟩ := he
  rw [hi, hj]
  simp only [Option.bind_eq_bind, Option.bind_some]
  split at he
  · exact he
  · exact he
  · split at he
    · rename_i e hs
      replace he := opt_do he
      obtain ⟨q, hq, he⟩ := he
      rw [hq]
      simp only [Option.bind_some]
      split at he
      · rename_i hqd
        split at he
        · exact he
        · replace he := opt_do he
          obtain ⟨cs, hcs, he⟩ := he
          simp only [ldCells_mono hl hcs, Option.bind_some]
          exact he
      · simp at he
    · simp at he
  · simp at he

theorem entriesA_mono (hl : HeapLe h h') {m : AV} {es : List (AV × AV × Nat)} (he : entriesA h m = some es) : entriesA h' m = some es := by
  unfold entriesA at he ⊢
  split at he
  · exact he
  · split at he
    · rename_i g; rw [hl _ _ g]; exact he
    · simp at he
  · simp at he

theorem lookupA_mono (hl : HeapLe h h') {t : TypeId} {m k v : AV} {ok : Bool} (he : lookupA cf h t m k ok = some v) : lookupA cf h' t m k ok = some v := by
  unfold lookupA at he ⊢
  split at he
  · split at he
    · rename_i kd ed es h1 h2 h3
      simp only [h1, h2, entriesA_mono hl h3]
      exact he
    · simp at he
  · simp at he

theorem entryA_mono (hl : HeapLe h h') {it v : AV} (he : entryA h it = some v) : entryA h' it = some v := by
  unfold entryA at he ⊢
  split at he
  · split at he
    · rename_i g
      simp only [hl _ _ g]
      split at he
      · rename_i h1 h2
        simp only [hl _ _ h2, h1]
        exact he
      · simp at he
    · simp at he
  · simp at he

theorem lenA_mono (hl : HeapLe h h') {t : TypeId} {x v : AV} (he : lenA cf h t x = some v) : lenA cf h' t x = some v := by
  unfold lenA at he ⊢
  replace he := opt_do he
  obtain ⟨i, hi, he⟩ := he
  rw [hi]
  simp only [Option.bind_eq_bind, Option.bind_some]
  split at he
  case h_5 hd =>
    split at he
    · rename_i g; rw [hl _ _ g]; exact he
    · simp at he
  case h_6 => simp at he
  all_goals exact he

theorem readCall_mono (hl : HeapLe h h') {ρ : Operand → AV} {c : Call} {v : AV} (he : readCall cf ρ h c = some v) : readCall cf ρ h' c = some v := by
  unfold readCall at he ⊢
  split at he
  · split at he
    · exact lenA_mono hl he
    · simp at he
  · exact he
  · exact he
  · exact he
  · simp at he

theorem readOp_mono (hl : HeapLe h h') {ρ : Operand → AV} {op : Op} {v : AV} (he : readOp cf ρ h op = some v) : readOp cf ρ h' op = some v := by
  rw [readOp_eq] at he ⊢
  cases op <;> simp only [readOpS] at he ⊢ <;> try exact he
  case load t a =>
    split at he
    · obtain ⟨i, hi, he⟩ := opt_bind he
      rw [hi]
      exact ldVar_mono hl he
    · simp at he
  case binOp => exact binA_mono hl he
  case convert => exact convA_mono hl he
  case lookup => exact lookupA_mono hl he
  case entry => exact entryA_mono hl he
  case call => exact readCall_mono hl he
end
end Go.AM
namespace Go.AM

def predOf (ops : Array Oper) (i j : Nat) : Prop := ∃ o e, ops[j]? = some o ∧ e ∈ o.after.toList ∧ Region.binds .any e = true ∧ e.on = i

inductive Bf (ops : Array Oper) : Nat → Nat → Prop where
  | one {i j : Nat} (h : predOf ops i j) : Bf ops i j
  | step {i k j : Nat} (h : Bf ops i k) (p : predOf ops k j) : Bf ops i j

def guardSlots (ops : Array Oper) (o : Oper) : List Nat :=
  match o.guard with
  | none => []
  | some (g, _) => ((ops[g]?).bind (·.dst)).toList

def dstIs (ops : Array Oper) (i t : Nat) : Prop := ∃ o, ops[i]? = some o ∧ o.dst = some t
def isEAt (ops : Array Oper) (i : Nat) : Prop := ∃ o, ops[i]? = some o ∧ isE o.op = true

structure DrOk (ops : Array Oper) (s : List (Nat × List Nat)) : Prop where
  full : ∀ i, i < ops.size → i ∈ s.map (·.1)
  lt : ∀ i ∈ s.map (·.1), i < ops.size
  nodup : (s.map (·.1)).Nodup
  edges : ∀ d x r, s = d ++ x :: r → ∀ i, predOf ops i x.1 → i ∈ d.map (·.1)
  dst : ∀ i j t, dstIs ops i t → dstIs ops j t → i = j
  names : ∀ i j o t, dstIs ops i t → ops[j]? = some o → (t ∈ opSlots o ∨ t ∈ guardSlots ops o) → i ≠ j → Bf ops i j ∨ Bf ops j i
  chain : ∀ i j, isEAt ops i → isEAt ops j → i ≠ j → Bf ops i j ∨ Bf ops j i
  sat : ∀ d x r, s = d ++ x :: r → isEAt ops x.1 → ∀ j ∈ r.map (·.1), ¬ isEAt ops j → ∃ i, predOf ops i j ∧ i ∉ d.map (·.1)
  un : ∀ d x r, s = d ++ x :: r → isEAt ops x.1 → ∀ j ∈ d.map (·.1), ¬ isEAt ops j → Bf ops j x.1 ∨ j ∈ x.2

namespace DrOk
variable {ops : Array Oper} {s : List (Nat × List Nat)}

theorem before (D : DrOk ops s) {k j : Nat} (h : Bf ops k j) : ∀ d x r, s = d ++ x :: r → x.1 = j → k ∈ d.map (·.1) := by
  induction h with
  | one h => intro d x r hs hx; subst hx; exact D.edges d x r hs _ h
  | step h p ih =>
    intro d x r hs hx
    subst hx
    have hk := D.edges d x r hs _ p
    obtain ⟨y, hy, hyk⟩ := List.mem_map.1 hk
    obtain ⟨d1, r1, rfl⟩ := List.append_of_mem hy
    have := ih d1 y (r1 ++ x :: r) (by simp [hs]) hyk
    simp at this ⊢
    exact .inl this

theorem nodup_split (D : DrOk ops s) {d r : List (Nat × List Nat)} {x : Nat × List Nat} (hs : s = d ++ x :: r) : x.1 ∉ d.map (·.1) ∧ x.1 ∉ r.map (·.1) ∧ ∀ i ∈ d.map (·.1), i ∉ r.map (·.1) := by
  have h := D.nodup
  rw [hs, List.map_append, List.map_cons, List.nodup_append] at h
  obtain ⟨h1, h2, h3⟩ := h
  rw [List.nodup_cons] at h2
  refine ⟨fun hx => h3 _ hx _ (by simp) rfl, h2.1, fun i hi hr => h3 _ hi _ (by simp [List.mem_map] at hr ⊢; exact .inr hr) rfl⟩

/-- What stands earlier is not behind. -/
theorem not_after (D : DrOk ops s) {d r : List (Nat × List Nat)} {x : Nat × List Nat} (hs : s = d ++ x :: r) {k : Nat} (hk : k ∈ d.map (·.1)) : ¬ Bf ops x.1 k := by
  intro hb
  obtain ⟨y, hy, hyk⟩ := List.mem_map.1 hk
  obtain ⟨d1, r1, rfl⟩ := List.append_of_mem hy
  have := D.before hb d1 y (r1 ++ x :: r) (by simp [hs]) hyk
  exact (D.nodup_split hs).1 (by simp at this ⊢; exact .inl this)
end DrOk

theorem bf_clo {ops : Array Oper} {S : Nat → Prop} (hc : ∀ i j, S j → predOf ops i j → S i) {k j : Nat} (h : Bf ops k j) : S j → S k := by
  induction h with
  | one h => exact fun hj => hc _ _ hj h
  | step h p ih => exact fun hj => ih (hc _ _ hj p)

theorem bf_ready {ops : Array Oper} {S : Nat → Prop} (hc : ∀ i j, S j → predOf ops i j → S i) {k j : Nat} (hr : ∀ i, predOf ops i j → S i) (h : Bf ops k j) : S k := by
  cases h with
  | one h => exact hr _ h
  | step h p => exact bf_clo hc h (hr _ p)

/-- An entry of what was done ahead of the model. -/
structure PendOk (cf : Cfg) (ops : Array Oper) (fr0 : Fr) (n0 : Nat) (done : List (Nat × List Nat)) (fr : Fr) (h : AHeap) (β : Inj) (e : DrE) : Prop where
  op : ops[e.i]? = some e.o
  val : ∀ d, e.o.dst = some d → fr.get d = e.v
  ex : ∃ (frj : Fr) (d r : List (Nat × List Nat)) (x : Nat × List Nat), done = d ++ x :: r ∧ x.1 = e.i ∧
    (∀ t k, dstIs ops k t → k ∈ d.map (·.1) → frj.get t = fr.get t) ∧ (∀ t, (∀ k ∈ d.map (·.1), ¬ dstIs ops k t) → frj.get t = fr0.get t) ∧
    ((e.kind = 0 ∧ wantedA ops frj e.o = some false ∧ e.v = .tuple []) ∨
     (e.kind = 1 ∧ wantedA ops frj e.o = some true ∧ e.fr = frj.keepL (opSlots e.o) ∧ readOp cf (ev e.fr) h e.o.op = some e.v) ∨
     (e.kind = 2 ∧ wantedA ops frj e.o = some true ∧ e.fr = frj.keepL (opSlots e.o) ∧ n0 ≤ e.id ∧ e.id < h.next ∧ β e.id = none ∧
       ∃ hj obj, allocOp cf (ev e.fr) hj e.o.op = some (e.v, hj.push obj) ∧ hj.next = e.id ∧ h.get e.id = some obj))

structure DI (cf : Cfg) (ops : Array Oper) (s : List (Nat × List Nat)) (fr0 : Fr) (β0 : Inj) (h0 : AHeap) (w0 : World) (n : Nat) (ds : List Deferred)
    (done rest : List (Nat × List Nat)) (fr : Fr) (h : AHeap) (tr : List DrE) (S : Nat → Prop) (β : Inj) (a : Act) (w : World) : Prop where
  split : s = done ++ rest
  sub : ∀ i, S i → i ∈ done.map (·.1)
  clo : ∀ i j, S j → predOf ops i j → S i
  es : ∀ i ∈ done.map (·.1), isEAt ops i → S i
  tn : TnW β0 h0 w0 β h w
  frD : ∀ t, (∃ i ∈ done.map (·.1), ¬ S i ∧ dstIs ops i t) → VR β (fr0.get t) (a.tmps.getD t undef)
  frS : ∀ t, (∀ i ∈ done.map (·.1), dstIs ops i t → S i) → VR β (fr.get t) (a.tmps.getD t undef)
  frN : ∀ t, (∀ i ∈ done.map (·.1), ¬ dstIs ops i t) → fr.get t = fr0.get t
  pend : ∀ i ∈ done.map (·.1), ¬ S i → ∃ e ∈ tr, e.i = i ∧ PendOk cf ops fr0 h0.next done fr h β e
  ids : ∀ e ∈ tr, ∀ e' ∈ tr, e.kind = 2 → e'.kind = 2 → e.i ≠ e'.i → e.id ≠ e'.id
  idlt : ∀ e ∈ tr, e.kind = 2 → e.id < h.next
  size : a.tmps.size = n
  defs : a.defers = ds

theorem HR.apush {β : Inj} {h : AHeap} {H : Array Obj} (hr : HR β h H) (o : AObj) : HR β (h.push o) H where
  top := fun b hb => by
    simp only [AHeap.next_push] at hb
    rw [AHeap.get_push, if_neg (by omega)]
    exact hr.top _ (by omega)
  dom := fun b x e => by have := hr.dom _ _ e; simp only [AHeap.next_push]; omega
  low := hr.low
  inj := fun b c B O N O' N' hb hc lb lc => by
    have h1 := hr.dom _ _ hb
    have h2 := hr.dom _ _ hc
    refine hr.inj _ _ _ _ _ _ _ hb hc ?_ ?_
    · rcases AHeap.live_push _ _ _ lb with ⟨e, _⟩ | ⟨_, l⟩
      · omega
      · exact l
    · rcases AHeap.live_push _ _ _ lc with ⟨e, _⟩ | ⟨_, l⟩
      · omega
      · exact l
  obj := fun b B O N x hb hx => by
    have h1 := hr.dom _ _ hb
    rw [AHeap.get_push, if_neg (by omega)] at hx
    exact hr.obj _ _ _ _ _ hb hx

theorem Tn.apush {β β' : Inj} {h h' : AHeap} {H H' : Array Obj} (t : Tn β h H β' h' H') (o : AObj) : Tn β h H β' (h'.push o) H' where
  ext := t.ext
  new := t.new
  next := by have := t.next; simp only [AHeap.next_push]; omega
  rel := t.rel.apush o
  sz := t.sz
  live := fun b B O N e l => by
    have h1 := t.rel.dom _ _ e
    refine t.live b B O N e ?_
    rcases AHeap.live_push _ _ _ l with ⟨e, _⟩ | ⟨_, l⟩
    · omega
    · exact l
  frame := t.frame

/-- A block that the machine had made already is made. -/
theorem Tn.late {β β' : Inj} {h h' : AHeap} {H H' : Array Obj} (t : Tn β h H β' h' H') {id : Nat} {obj : AObj} {O' : Obj} {N : Nat} (hid : β' id = none) (hn : h.next ≤ id) (hlt : id < h'.next)
    (hg : h'.get id = some obj) (ho : ∀ β'', β'.le β'' → OR β'' (H'.push O') H'.size 0 N obj) : Tn β h H (β'.add id (H'.size, 0, N)) h' (H'.push O') := by
  have hle := Inj.le_add (x := (H'.size, 0, N)) hid
  refine ⟨fun b x e => hle _ _ (t.ext _ _ e), ?_, t.next, ?_, ?_, ?_, ?_⟩
  · intro b x e
    unfold Inj.add at e
    split at e
    · rename_i hb; exact .inr (hb ▸ hn)
    · exact t.new _ _ e
  · refine ⟨t.rel.top, ?_, ?_, ?_, ?_⟩
    · intro b x e
      unfold Inj.add at e
      split at e
      · rename_i hb; rw [hb]; exact hlt
      · exact t.rel.dom _ _ e
    · intro b B O M e
      unfold Inj.add at e
      simp only [Array.size_push]
      split at e
      · simp at e; omega
      · have := t.rel.low _ _ _ _ e; omega
    · intro b c B O M O2 M2 hb hc lb lc
      unfold Inj.add at hb hc
      split at hb <;> split at hc
      · omega
      · simp at hb; have := t.rel.low _ _ _ _ hc; omega
      · simp at hc; have := t.rel.low _ _ _ _ hb; omega
      · exact t.rel.inj _ _ _ _ _ _ _ hb hc lb lc
    · intro b B O M x hb hx
      unfold Inj.add at hb
      split at hb
      · rename_i e
        subst e
        rw [hg] at hx
        simp at hb hx
        obtain ⟨rfl, rfl, rfl⟩ := hb
        subst hx
        exact ho _ hle
      · have := t.rel.low _ _ _ _ hb
        exact ((t.rel.obj _ _ _ _ _ hb hx).heap (by rw [Array.getElem?_push]; split; omega; rfl)).mono hle
  · have := t.sz; simp only [Array.size_push]; omega
  · intro b B O M e l
    unfold Inj.add at e
    split at e
    · simp at e; right; have := t.sz; omega
    · exact t.live _ _ _ _ e l
  · intro B hB hn'
    have h1 := t.frame B hB hn'
    have := t.sz
    rw [← h1, Array.getElem?_push]; split
    · omega
    · rfl

theorem TnW.apushW {β β' : Inj} {h h' : AHeap} {w w' : World} (t : TnW β h w β' h' w') (o : AObj) : TnW β h w β' (h'.push o) w' := ⟨t.toTn.apush o, t.kp⟩

section
variable {P : Program} {cf : Cfg}

theorem PendOk.grow {ops : Array Oper} {fr0 : Fr} {n0 : Nat} {done : List (Nat × List Nat)} {fr fr' : Fr} {h h' : AHeap} {β β' : Inj} {e : DrE} (p : PendOk cf ops fr0 n0 done fr h β e)
    (x : List (Nat × List Nat)) (hfr : ∀ t k, dstIs ops k t → k ∈ done.map (·.1) → fr'.get t = fr.get t)
    (hk1 : e.kind = 1 → ∀ v, readOp cf (ev e.fr) h e.o.op = some v → readOp cf (ev e.fr) h' e.o.op = some v)
    (hk2 : e.kind = 2 → e.id < h.next → β e.id = none → e.id < h'.next ∧ β' e.id = none ∧ h'.get e.id = h.get e.id) :
    PendOk cf ops fr0 n0 (done ++ x) fr' h' β' e := by
  obtain ⟨p1, p2, frj, d, r, y, hd, hy, q1, q2, q3⟩ := p
  have hei : e.i ∈ done.map (·.1) := by rw [hd, ← hy]; simp
  refine ⟨p1, fun t ht => ?_, frj, d, r ++ x, y, by simp [hd], hy, ?_, q2, ?_⟩
  · rw [hfr t e.i ⟨_, p1, ht⟩ hei]; exact p2 t ht
  · intro t k hk hkd
    rw [q1 t k hk hkd, hfr t k hk (by rw [hd]; simp at hkd ⊢; exact .inl hkd)]
  · rcases q3 with q3 | ⟨k, a, b, c⟩ | ⟨k, a, b, c1, c2, c3, hj, obj, c4, c5, c6⟩
    · exact .inl q3
    · exact .inr (.inl ⟨k, a, b, hk1 k _ c⟩)
    · obtain ⟨g1, g2, g3⟩ := hk2 k c2 c3
      exact .inr (.inr ⟨k, a, b, c1, g1, g2, hj, obj, c4, c5, by rw [g3]; exact c6⟩)

theorem putD_get (fr : Fr) (d : Option Nat) (v : AV) (t : Nat) : (putD fr d v).get t = if d = some t then v else fr.get t := by
  cases d with
  | none => simp [putD]
  | some d =>
    simp only [putD, Fr.get_put, Option.some.injEq]
    by_cases h : t = d
    · subst h; simp
    · rw [if_neg h, if_neg (fun e => h e.symm)]

theorem put_getD (a : Act) (d : Option Nat) (v : Value) (t : Nat) (hd : dstOk a.tmps.size d) : (a.put d v).tmps.getD t undef = if d = some t then v else a.tmps.getD t undef := by
  cases d with
  | none => simp [Act.put]
  | some d =>
    simp only [Act.put, Option.some.injEq]
    rw [getD_set _ _ _ _ (hd d rfl)]
    by_cases h : t = d
    · subst h; simp
    · rw [if_neg h, if_neg (fun e => h e.symm)]

variable {ops : Array Oper} {s : List (Nat × List Nat)} {fr0 : Fr} {β0 : Inj} {h0 : AHeap} {w0 : World} {n : Nat} {ds : List Deferred}

/-- The machine does what does not write, ahead of the model. -/
theorem DI.ahead {done rest : List (Nat × List Nat)} {x : Nat × List Nat} {fr : Fr} {h h' : AHeap} {tr : List DrE} {S : Nat → Prop} {β : Inj} {a : Act} {w : World} {o : Oper} {v : AV} {e : DrE}
    (D : DrOk ops s) (I : DI cf ops s fr0 β0 h0 w0 n ds done (x :: rest) fr h tr S β a w) (ho : ops[x.1]? = some o) (hne : ¬ isEAt ops x.1)
    (hh : h' = h ∨ ∃ obj, h' = h.push obj) (htn : TnW β0 h0 w0 β h' w) (he : e.i = x.1) (heo : e.o = o) (hev : e.v = v)
    (hid : e.kind = 2 → h.next ≤ e.id ∧ e.id < h'.next)
    (hp : (e.kind = 0 ∧ wantedA ops fr e.o = some false ∧ e.v = .tuple []) ∨
     (e.kind = 1 ∧ wantedA ops fr e.o = some true ∧ e.fr = fr.keepL (opSlots e.o) ∧ readOp cf (ev e.fr) h' e.o.op = some e.v) ∨
     (e.kind = 2 ∧ wantedA ops fr e.o = some true ∧ e.fr = fr.keepL (opSlots e.o) ∧ h0.next ≤ e.id ∧ e.id < h'.next ∧ β e.id = none ∧
       ∃ hj obj, allocOp cf (ev e.fr) hj e.o.op = some (e.v, hj.push obj) ∧ hj.next = e.id ∧ h'.get e.id = some obj)) :
    DI cf ops s fr0 β0 h0 w0 n ds (done ++ [x]) rest (putD fr o.dst v) h' (e :: tr) S β a w := by
  obtain ⟨nd1, nd2, nd3⟩ := D.nodup_split (d := done) (x := x) (r := rest) (by rw [I.split])
  have hSx : ¬ S x.1 := fun h => nd1 (I.sub _ h)
  have hdx : ∀ t k, dstIs ops k t → k ∈ done.map (·.1) → o.dst ≠ some t := by
    intro t k hk hkd ht
    have := D.dst _ _ _ hk ⟨o, ho, ht⟩
    subst this
    exact nd1 hkd
  have hfr' : ∀ t k, dstIs ops k t → k ∈ done.map (·.1) → (putD fr o.dst v).get t = fr.get t := by
    intro t k hk hkd
    rw [putD_get, if_neg (hdx t k hk hkd)]
  have hle : HeapLe h h' := by
    rcases hh with rfl | ⟨obj, rfl⟩
    · exact fun b o h => h
    · exact HeapLe.push (I.tn.rel.top _ (Nat.le_refl _)) obj
  have hnx : h.next ≤ h'.next := by
    rcases hh with rfl | ⟨obj, rfl⟩
    · exact Nat.le_refl _
    · simp
  have hget : ∀ b, b < h.next → h'.get b = h.get b := by
    intro b hb
    rcases hh with rfl | ⟨obj, rfl⟩
    · rfl
    · rw [AHeap.get_push, if_neg (by omega)]
  refine ⟨by simp [I.split], ?_, I.clo, ?_, htn, ?_, ?_, ?_, ?_, ?_, ?_, I.size, I.defs⟩
  · intro i hi; have := I.sub i hi; simp at this ⊢; exact .inl this
  · intro i hi hE
    simp at hi
    rcases hi with ⟨b, hi⟩ | rfl
    · exact I.es i (List.mem_map.2 ⟨_, hi, rfl⟩) hE
    · exact absurd hE hne
  · rintro t ⟨i, hi, hSi, hit⟩
    simp at hi
    rcases hi with ⟨b, hi⟩ | rfl
    · exact I.frD t ⟨i, List.mem_map.2 ⟨_, hi, rfl⟩, hSi, hit⟩
    · have hno : ∀ i ∈ done.map (·.1), ¬ dstIs ops i t := by
        intro i hi hd
        have := D.dst _ _ _ hd hit
        subst this
        exact nd1 hi
      rw [← I.frN t hno]
      exact I.frS t (fun i hi hd => absurd hd (hno i hi))
  · intro t ht
    have h1 : o.dst ≠ some t := fun e => hSx (ht x.1 (by simp) ⟨o, ho, e⟩)
    rw [putD_get, if_neg h1]
    exact I.frS t (fun i hi hd => ht i (by simp at hi ⊢; exact .inl hi) hd)
  · intro t ht
    have h1 : o.dst ≠ some t := fun e => ht x.1 (by simp) ⟨o, ho, e⟩
    rw [putD_get, if_neg h1]
    exact I.frN t (fun i hi hd => ht i (by simp at hi ⊢; exact .inl hi) hd)
  · intro i hi hSi
    simp at hi
    rcases hi with ⟨b, hi⟩ | rfl
    · obtain ⟨e1, m1, m2, m3⟩ := I.pend i (List.mem_map.2 ⟨_, hi, rfl⟩) hSi
      refine ⟨e1, by simp [m1], m2, m3.grow [x] hfr' (fun _ v hv => readOp_mono hle hv) (fun _ k2 k3 => ⟨by omega, k3, hget _ k2⟩)⟩
    · refine ⟨e, by simp, he, by rw [he, heo]; exact ho, ?_, fr, done, [], x, by simp, he.symm, ?_, ?_, hp⟩
      · intro d hd
        rw [heo] at hd
        rw [putD_get, if_pos hd, hev]
      · intro t k hk hkd; exact (hfr' t k hk hkd).symm
      · intro t ht; exact I.frN t ht
  · intro e1 h1 e2 h2 k1 k2 hne2
    simp at h1 h2
    rcases h1 with rfl | h1 <;> rcases h2 with rfl | h2
    · exact absurd rfl hne2
    · have := I.idlt _ h2 k2; have := hid k1; omega
    · have := I.idlt _ h1 k1; have := hid k2; omega
    · exact I.ids _ h1 _ h2 k1 k2 hne2
  · intro e1 h1 k1
    simp at h1
    rcases h1 with rfl | h1
    · exact (hid k1).2
    · have := I.idlt _ h1 k1; omega

end
end Go.AM
namespace Go.AM
section
variable {P : Program} {cf : Cfg} {ck : CallK}
variable {ops : Array Oper} {s : List (Nat × List Nat)} {fr0 : Fr} {β0 : Inj} {h0 : AHeap} {w0 : World} {n : Nat} {ds : List Deferred} {Q : Fr × AHeap → Prop}

theorem allocOp_push {ρ : Operand → AV} {h h' : AHeap} {op : Op} {v : AV} (he : allocOp cf ρ h op = some (v, h')) : ∃ obj, h' = h.push obj := by
  cases op <;> simp only [allocOp] at he <;> try (simp at he; done)
  case alloc t =>
    replace he := opt_do he
    obtain ⟨i, hi, he⟩ := he
    replace he := opt_do he
    obtain ⟨cs, hcs, he⟩ := he
    simp at he
    exact ⟨_, he.2.symm⟩
  case box t x =>
    replace he := opt_do he
    obtain ⟨cs, hcs, he⟩ := he
    simp at he
    exact ⟨_, he.2.symm⟩
  case buildSlice t len parts =>
    replace he := opt_do he
    obtain ⟨i, hi, he⟩ := he
    split at he
    · replace he := opt_do he
      obtain ⟨j, hj, he⟩ := he
      replace he := opt_do he
      obtain ⟨z, hz, he⟩ := he
      split at he
      · replace he := opt_do he
        obtain ⟨cs, hcs, he⟩ := he
        simp at he
        exact ⟨_, he.2.symm⟩
      · simp at he
    · simp at he
  case makeMap t r =>
    replace he := opt_do he
    obtain ⟨i, hi, he⟩ := he
    split at he
    · simp at he; exact ⟨_, he.2.symm⟩
    · split at he
      · simp at he; exact ⟨_, he.2.symm⟩
      · simp at he
    · simp at he
  case makeSlice t l c =>
    replace he := opt_do he
    obtain ⟨i, hi, he⟩ := he
    split at he
    · replace he := opt_do he
      obtain ⟨j, hj, he⟩ := he
      replace he := opt_do he
      obtain ⟨z, hz, he⟩ := he
      split at he
      · simp at he; exact ⟨_, he.2.symm⟩
      · simp at he
    · simp at he
  case convert s d x =>
    replace he := opt_do he
    obtain ⟨i, hi, he⟩ := he
    replace he := opt_do he
    obtain ⟨j, hj, he⟩ := he
    split at he
    · replace he := opt_do he
      obtain ⟨q, hq, he⟩ := he
      split at he
      · split at he
        · simp at he; exact ⟨_, he.2.symm⟩
        · simp at he
      · simp at he
    · simp at he

/-- As far as it writes nothing the machine goes ahead. -/
theorem advance (D : DrOk ops s) : ∀ (rest done : List (Nat × List Nat)) (fr : Fr) (h : AHeap) (tr : List DrE) (S : Nat → Prop) (β : Inj) (a : Act) (w : World),
    DI cf ops s fr0 β0 h0 w0 n ds done rest fr h tr S β a w → (execDr cf ck ops rest fr h tr).all Q →
    ∃ done' rest' fr' h' tr', DI cf ops s fr0 β0 h0 w0 n ds done' rest' fr' h' tr' S β a w ∧ (execDr cf ck ops rest' fr' h' tr').all Q ∧
      (rest' = [] ∨ ∃ x r, rest' = x :: r ∧ isEAt ops x.1)
  | [], done, fr, h, tr, S, β, a, w, I, he => ⟨done, [], fr, h, tr, I, he, .inl rfl⟩
  | x :: rest, done, fr, h, tr, S, β, a, w, I, he => by
    by_cases hE : isEAt ops x.1
    · exact ⟨done, x :: rest, fr, h, tr, I, he, .inr ⟨x, rest, rfl, hE⟩⟩
    · obtain ⟨i, un⟩ := x
      simp only [execDr] at he
      split at he
      · exact he.elim
      · rename_i o ho
        have hnE : isE o.op = false := by
          cases hx : isE o.op with
          | false => rfl
          | true => exact absurd ⟨o, ho, hx⟩ hE
        split at he
        · exact he.elim
        · rename_i hw
          exact advance D rest _ _ _ _ S β a w (I.ahead (e := ⟨i, o, fr, .tuple [], 0, 0⟩) D ho hE (.inl rfl) I.tn rfl rfl rfl (by simp) (.inl ⟨rfl, hw, rfl⟩)) he
        · rename_i hw
          rw [hnE] at he
          simp only [Bool.false_eq_true, if_false] at he
          split at he
          · rename_i v hv
            exact advance D rest _ _ _ _ S β a w (I.ahead (e := ⟨i, o, fr.keepL (opSlots o), v, 0, 1⟩) D ho hE (.inl rfl) I.tn rfl rfl rfl (by simp) (.inr (.inl ⟨rfl, hw, rfl, hv⟩))) he
          · split at he
            · rename_i v h' hv
              have hpush := allocOp_push hv
              obtain ⟨obj, rfl⟩ := hpush
              refine advance D rest _ _ _ _ S β a w (I.ahead (e := ⟨i, o, fr.keepL (opSlots o), v, h.next, 2⟩) D ho hE (.inr ⟨obj, rfl⟩) (I.tn.apushW obj) rfl rfl rfl (by simp) (.inr (.inr ⟨rfl, hw, rfl, I.tn.next, by simp, I.tn.rel.fresh, h, obj, hv, rfl, by simp [AHeap.get_push]⟩))) he
            · exact he.elim


theorem FR_keep {β : Inj} {fr : Fr} {tmps : Array Value} {l : List Nat} (h : ∀ t ∈ l, VR β (fr.get t) (tmps.getD t undef)) : FR β (fr.keepL l) tmps := by
  intro t
  rw [Fr.keepL_eq]
  rw [Fr.get_filter (fun n => l.contains n)]
  split
  · rename_i ht; exact h t (by simpa using ht)
  · exact .dead _

theorem wantedA_keep (ops : Array Oper) (fr : Fr) (o : Oper) : wantedA ops (fr.keepL (guardSlots ops o)) o = wantedA ops fr o := by
  unfold wantedA guardSlots
  split
  · rfl
  · rename_i j want hg
    split
    · rfl
    · rename_i d hd
      have : Fr.get (fr.keepL (((ops[j]?).bind (·.dst)).toList)) d = fr.get d := by
        rw [Fr.keepL_eq]
        rw [Fr.get_filter (fun n => (((ops[j]?).bind (·.dst)).toList).contains n), hd]
        simp
      simp only [hg, this]

theorem wanted_slot {β : Inj} {fr : Fr} {tmps : Array Value} {o : Oper} {b : Bool} (he : wantedA ops fr o = some b) (h : ∀ t ∈ guardSlots ops o, VR β (fr.get t) (tmps.getD t undef)) :
    Region.wanted o (yielded ops tmps) = b :=
  wanted_sound (β := β) (FR_keep h) (by rw [wantedA_keep]; exact he)

theorem slot_done {done rest : List (Nat × List Nat)} {fr : Fr} {h : AHeap} {tr : List DrE} {S : Nat → Prop} {β : Inj} {a : Act} {w : World} (D : DrOk ops s)
    (I : DI cf ops s fr0 β0 h0 w0 n ds done rest fr h tr S β a w) {d r : List (Nat × List Nat)} {x : Nat × List Nat} (hd : done = d ++ x :: r) (hS : ¬ S x.1) (hready : ∀ p, predOf ops p x.1 → S p)
    {o : Oper} (ho : ops[x.1]? = some o) {frj : Fr} (q1 : ∀ t k, dstIs ops k t → k ∈ d.map (·.1) → frj.get t = fr.get t) (q2 : ∀ t, (∀ k ∈ d.map (·.1), ¬ dstIs ops k t) → frj.get t = fr0.get t)
    {t : Nat} (ht : t ∈ opSlots o ∨ t ∈ guardSlots ops o) : VR β (frj.get t) (a.tmps.getD t undef) := by
  have hs : s = d ++ x :: (r ++ rest) := by rw [I.split, hd]; simp
  obtain ⟨nd1, nd2, nd3⟩ := D.nodup_split hs
  by_cases hw : ∃ k ∈ d.map (·.1), dstIs ops k t
  · obtain ⟨k, hkd, hk⟩ := hw
    rw [q1 t k hk hkd]
    refine I.frS t fun i hi hit => ?_
    have hik := D.dst _ _ _ hit hk
    subst hik
    have hne : i ≠ x.1 := fun e => nd1 (e ▸ hkd)
    rcases D.names i x.1 o t hk ho ht hne with hb | hb
    · exact bf_ready I.clo hready hb
    · exact absurd hb (D.not_after hs hkd)
  · have hw' : ∀ k ∈ d.map (·.1), ¬ dstIs ops k t := fun k hk hd => hw ⟨k, hk, hd⟩
    rw [q2 t hw']
    by_cases hp : ∃ i ∈ done.map (·.1), ¬ S i ∧ dstIs ops i t
    · exact I.frD t hp
    · have hall : ∀ i ∈ done.map (·.1), ¬ dstIs ops i t := by
        intro i hi hit
        have hSi : S i := by
          by_cases h : S i
          · exact h
          · exact absurd ⟨i, hi, h, hit⟩ hp
        have hne : i ≠ x.1 := fun e => hS (e ▸ hSi)
        rcases D.names i x.1 o t hit ho ht hne with hb | hb
        · exact hw' i (D.before hb d x _ hs rfl) hit
        · exact hS (bf_clo I.clo hb hSi)
      rw [← I.frN t hall]
      exact I.frS t (fun i hi hd => absurd hd (hall i hi))

/-- What the machine had done ahead is done. -/
theorem DI.pending {done rest : List (Nat × List Nat)} {fr : Fr} {h : AHeap} {tr : List DrE} {S : Nat → Prop} {β : Inj} {a : Act} {w : World} (hc : RdOk P cf) (D : DrOk ops s) (hok : opsOk n ops)
    (I : DI cf ops s fr0 β0 h0 w0 n ds done rest fr h tr S β a w) {i : Nat} (hi : i ∈ done.map (·.1)) (hS : ¬ S i) (hready : ∀ p, predOf ops p i → S p)
    {K : Act → World → Prop} {Qx : Exit → Act → World → Prop}
    (hk : ∀ β' a' w', DI cf ops s fr0 β0 h0 w0 n ds done rest fr h tr (fun j => S j ∨ j = i) β' a' w' → K a' w') : wpOp P ops Qx i K a w := by
  obtain ⟨e, m1, rfl, m3⟩ := I.pend i hi hS
  obtain ⟨p1, p2, frj, d, r, x, hd, hx, q1, q2, q3⟩ := m3
  have hdst : dstOk a.tmps.size e.o.dst := by rw [I.size]; exact hok _ _ p1
  have hslot : ∀ t, (t ∈ opSlots e.o ∨ t ∈ guardSlots ops e.o) → VR β (frj.get t) (a.tmps.getD t undef) := fun t ht =>
    slot_done D I hd (by rw [hx]; exact hS) (by rw [hx]; exact hready) (by rw [hx]; exact p1) q1 q2 ht
  -- the new state
  have fin : ∀ (β' : Inj) (v' : Value) (w' : World), β.le β' → VR β' e.v v' → TnW β0 h0 w0 β' h w' →
      (∀ e' ∈ tr, e'.kind = 2 → e'.i ≠ e.i → β e'.id = none → β' e'.id = none) →
      DI cf ops s fr0 β0 h0 w0 n ds done rest fr h tr (fun j => S j ∨ j = e.i) β' (a.put e.o.dst v') w' := by
    intro β' v' w' hle hv htn hids
    refine ⟨I.split, ?_, ?_, ?_, htn, ?_, ?_, I.frN, ?_, I.ids, I.idlt, by rw [put_size]; exact I.size, by rw [put_defers]; exact I.defs⟩
    · rintro j (hj | rfl)
      · exact I.sub j hj
      · exact hi
    · rintro j k (hk | rfl) hp
      · exact .inl (I.clo _ _ hk hp)
      · exact .inl (hready _ hp)
    · intro j hj hE; exact .inl (I.es j hj hE)
    · rintro t ⟨j, hj, hSj, hjt⟩
      have h1 : e.o.dst ≠ some t := by
        intro h1
        exact hSj (.inr (D.dst _ _ _ hjt ⟨_, p1, h1⟩))
      rw [put_getD _ _ _ _ hdst, if_neg h1]
      exact (I.frD t ⟨j, hj, fun h => hSj (.inl h), hjt⟩).mono hle
    · intro t ht
      rw [put_getD _ _ _ _ hdst]
      split
      · rename_i h1
        rw [p2 t h1]; exact hv
      · rename_i h1
        refine (I.frS t fun j hj hjt => ?_).mono hle
        rcases ht j hj hjt with h2 | rfl
        · exact h2
        · obtain ⟨o', ho', hot⟩ := hjt
          rw [p1] at ho'
          injection ho' with ho'
          subst ho'
          exact absurd hot h1
    · intro j hj hSj
      obtain ⟨e', m1', m2', m3'⟩ := I.pend j hj (fun h => hSj (.inl h))
      have hne : e'.i ≠ e.i := fun h => hSj (.inr (m2' ▸ h))
      refine ⟨e', m1', m2', ?_⟩
      have := m3'.grow (h' := h) (β' := β') (fr' := fr) [] (fun _ _ _ _ => rfl) (fun _ v hv => hv) (fun k2 k3 k4 => ⟨k3, hids e' m1' k2 hne k4, rfl⟩)
      simpa using this
  unfold wpOp
  rw [p1]
  simp only
  rcases q3 with ⟨k, hw, hev⟩ | ⟨k, hw, hfr, hrd⟩ | ⟨k, hw, hfr, c1, c2, c3, hj, obj, c4, c5, c6⟩
  · rw [wanted_slot hw (fun t ht => hslot t (.inr ht))]
    simp only [Bool.false_eq_true, if_false]
    exact hk _ _ _ (fin β undef w (fun _ _ e => e) (by rw [hev]; exact .tuple .nil) I.tn (fun _ _ _ _ h => h))
  · rw [wanted_slot hw (fun t ht => hslot t (.inr ht))]
    simp only [if_true]
    left
    have hfrr : FR β e.fr a.tmps := by rw [hfr]; exact FR_keep (fun t ht => hslot t (.inl ht))
    obtain ⟨v', g1, g2⟩ := read_sound (P := P) (w := w) hc (ev_sound hfrr) I.tn.rel hrd
    exact upon_next g1 (.inl rfl) (hk _ _ _ (fin β v' w (fun _ _ e => e) g2 I.tn (fun _ _ _ _ h => h)))
  · rw [wanted_slot hw (fun t ht => hslot t (.inr ht))]
    simp only [if_true]
    left
    have hfrr : FR β e.fr a.tmps := by rw [hfr]; exact FR_keep (fun t ht => hslot t (.inl ht))
    obtain ⟨o2, O', N, v', w', g0, gl, g1, g2, gk, g3, g4⟩ := (alloc_sound (P := P) (w := w) hc (ev_sound hfrr) c4).ex
    have hobj : obj = o2 := by
      have h1 : (hj.push obj).get hj.next = (hj.push o2).get hj.next := by rw [g0]
      simp [AHeap.get_push] at h1
      exact h1
    subst hobj
    rw [c5] at g3
    have hle : β.le (β.add e.id (w.heap.size, 0, N)) := Inj.le_add c3
    refine upon_next g1 (.inl rfl) (hk _ _ _ (fin (β.add e.id (w.heap.size, 0, N)) v' w' hle (g3 _ hle (by simp [Inj.add])) ?_ ?_))
    · refine ⟨?_, I.tn.kp.trans gk⟩
      rw [g2]
      exact I.tn.toTn.late c3 c1 c2 c6 (fun β'' hb => by have := g4 β'' hb; rw [g2] at this; exact this)
    · intro e' m1' k2 hne h
      have := I.ids _ m1' _ m1 k2 k hne
      simp [Inj.add, this, h]

theorem stable_mem {h h' : AHeap} {un : List Nat} : ∀ {tr : List DrE}, stableA cf h h' un tr = true → ∀ e ∈ tr, e.i ∈ un → stableE cf h h' e = true
  | [], _, e, he, _ => by simp at he
  | x :: tr, hs, e, he, hu => by
    simp only [stableA, Bool.and_eq_true, Bool.or_eq_true] at hs
    simp at he
    rcases he with rfl | he
    · rcases hs.1 with h1 | h1
      · simp at h1; exact absurd hu h1
      · exact h1
    · exact stable_mem hs.2 e he hu

theorem sameEntries_eq : ∀ {a b : List (AV × AV × Nat)}, sameEntries a b = true → a = b
  | [], [], _ => rfl
  | (a, b, n) :: l, (c, d, m) :: r, h => by
    simp only [sameEntries, Bool.and_eq_true, decide_eq_true_eq] at h
    obtain ⟨⟨⟨h1, h2⟩, h3⟩, h4⟩ := h
    rw [AV.same_eq h1, AV.same_eq h2, h3, sameEntries_eq h4]
  | [], _ :: _, h => by simp [sameEntries] at h
  | (_, _, _) :: _, [], h => by simp [sameEntries] at h

theorem AObj.same_eq {a b : AObj} (h : AObj.same a b = true) : a = b := by
  cases a <;> cases b <;> simp [AObj.same] at h
  · rw [AV.sames_eq h.1, h.2]
  · rw [sameEntries_eq h.1, h.2]
  · rfl

theorem sameObj_eq {a b : Option AObj} (h : sameObj a b = true) : b = a := by
  cases a <;> cases b <;> simp [sameObj] at h
  rw [AObj.same_eq h]

/-- What writes is done by both. -/
theorem DI.effect {done rest : List (Nat × List Nat)} {x : Nat × List Nat} {fr : Fr} {h : AHeap} {tr : List DrE} {S : Nat → Prop} {β : Inj} {a : Act} {w : World} (hc : MtOk P cf) (hck : CallsOk P ck)
    (D : DrOk ops s) (hok : opsOk n ops)
    (I : DI cf ops s fr0 β0 h0 w0 n ds done (x :: rest) fr h tr S β a w) (he : (execDr cf ck ops (x :: rest) fr h tr).all Q) (hE : isEAt ops x.1) (hready : ∀ p, predOf ops p x.1 → S p)
    {K : Act → World → Prop} {Qx : Exit → Act → World → Prop}
    (hk : ∀ fr' h' tr' β' a' w', DI cf ops s fr0 β0 h0 w0 n ds (done ++ [x]) rest fr' h' tr' (fun j => S j ∨ j = x.1) β' a' w' → (execDr cf ck ops rest fr' h' tr').all Q → K a' w') :
    wpOp P ops Qx x.1 K a w := by
  obtain ⟨o, ho, hEo⟩ := hE
  have hs : s = done ++ x :: rest := I.split
  obtain ⟨nd1, nd2, nd3⟩ := D.nodup_split hs
  have hSx : ¬ S x.1 := fun h => nd1 (I.sub _ h)
  have hdst : dstOk a.tmps.size o.dst := by rw [I.size]; exact hok _ _ ho
  have hslot : ∀ t, (t ∈ opSlots o ∨ t ∈ guardSlots ops o) → VR β (fr.get t) (a.tmps.getD t undef) := by
    intro t ht
    refine I.frS t fun i hi hit => ?_
    have hne : i ≠ x.1 := fun e => nd1 (e ▸ hi)
    rcases D.names i x.1 o t hit ho ht hne with hb | hb
    · exact bf_ready I.clo hready hb
    · exact absurd hb (D.not_after hs hi)
  have hdx : ∀ t k, dstIs ops k t → k ∈ done.map (·.1) → o.dst ≠ some t := by
    intro t k hk hkd ht
    have := D.dst _ _ _ hk ⟨o, ho, ht⟩
    subst this
    exact nd1 hkd
  have hmem : ∀ i, i ∈ (done ++ [x]).map (·.1) ↔ i ∈ done.map (·.1) ∨ i = x.1 := by
    intro i; simp
  -- the new state
  have fin : ∀ (β' : Inj) (v : AV) (v' : Value) (h' : AHeap) (w' : World) (tr' : List DrE), TnW β h w β' h' w' → VR β' v v' → (tr' = tr ∨ ∃ e, e.kind = 0 ∧ tr' = e :: tr) →
      (∀ e ∈ tr, PendOk cf ops fr0 h0.next done fr h β e → e.i ∈ done.map (·.1) → ¬ S e.i → (e.kind = 1 → readOp cf (ev e.fr) h' e.o.op = some e.v) ∧ (e.kind = 2 → h'.get e.id = h.get e.id)) →
      DI cf ops s fr0 β0 h0 w0 n ds (done ++ [x]) rest (putD fr o.dst v) h' tr' (fun j => S j ∨ j = x.1) β' (a.put o.dst v') w' := by
    intro β' v v' h' w' tr' htn hv htr hst
    have hsub : ∀ e, e.kind = 2 → e ∈ tr' → e ∈ tr := by
      intro e hk2 hm
      rcases htr with rfl | ⟨e0, hk0, rfl⟩
      · exact hm
      · simp at hm
        rcases hm with rfl | hm
        · omega
        · exact hm
    have hsup : ∀ e ∈ tr, e ∈ tr' := by
      intro e hm
      rcases htr with rfl | ⟨e0, hk0, rfl⟩
      · exact hm
      · simp [hm]
    refine ⟨by simp [hs], ?_, ?_, ?_, I.tn.trans htn, ?_, ?_, ?_, ?_, ?_, ?_, by rw [put_size]; exact I.size, by rw [put_defers]; exact I.defs⟩
    · rintro j (hj | rfl)
      · exact (hmem _).2 (.inl (I.sub j hj))
      · exact (hmem _).2 (.inr rfl)
    · rintro j k (hk | rfl) hp
      · exact .inl (I.clo _ _ hk hp)
      · exact .inl (hready _ hp)
    · intro j hj hEj
      rcases (hmem _).1 hj with hj | rfl
      · exact .inl (I.es j hj hEj)
      · exact .inr rfl
    · rintro t ⟨j, hj, hSj, hjt⟩
      rcases (hmem _).1 hj with hj | rfl
      · rw [put_getD _ _ _ _ hdst, if_neg (hdx t j hjt hj)]
        exact (I.frD t ⟨j, hj, fun h => hSj (.inl h), hjt⟩).mono htn.ext
      · exact absurd (.inr rfl) hSj
    · intro t ht
      rw [put_getD _ _ _ _ hdst, putD_get]
      split
      · exact hv
      · refine (I.frS t fun j hj hjt => ?_).mono htn.ext
        rcases ht j ((hmem _).2 (.inl hj)) hjt with h2 | rfl
        · exact h2
        · exact absurd hj nd1
    · intro t ht
      have h1 : o.dst ≠ some t := fun e => ht x.1 ((hmem _).2 (.inr rfl)) ⟨o, ho, e⟩
      rw [putD_get, if_neg h1]
      exact I.frN t (fun i hi hd => ht i ((hmem _).2 (.inl hi)) hd)
    · intro j hj hSj
      rcases (hmem _).1 hj with hj | rfl
      · obtain ⟨e, m1, m2, m3⟩ := I.pend j hj (fun h => hSj (.inl h))
        have hstab := hst e m1 m3 (m2 ▸ hj) (m2 ▸ fun h => hSj (.inl h))
        refine ⟨e, hsup e m1, m2, m3.grow [x] ?_ ?_ ?_⟩
        · intro t k hkt hkd
          rw [putD_get, if_neg (hdx t k hkt hkd)]
        · intro hk1 u hu
          have hev : e.v = u := by
            obtain ⟨_, _, frj, d, r, y, _, _, _, _, q3⟩ := m3
            rcases q3 with q3 | q3 | q3
            · omega
            · have := q3.2.2.2
              rw [hu] at this
              simpa using this.symm
            · omega
          rw [← hev]; exact hstab.1 hk1
        · intro hk2 hlt hid
          refine ⟨by have := htn.next; omega, ?_, hstab.2 hk2⟩
          cases hb : β' e.id with
          | none => rfl
          | some y =>
            rcases htn.new _ _ hb with h1 | h1
            · rw [hid] at h1; simp at h1
            · omega
      · exact absurd (.inr rfl) hSj
    · intro e1 h1 e2 h2 k1 k2 hne
      exact I.ids _ (hsub e1 k1 h1) _ (hsub e2 k2 h2) k1 k2 hne
    · intro e1 h1 k1
      have := I.idlt _ (hsub e1 k1 h1) k1
      have := htn.next
      omega
  obtain ⟨i, un⟩ := x
  simp only at ho hready hSx nd1 nd2 nd3 hmem hdx
  unfold wpOp
  rw [ho]
  simp only
  simp only [execDr, ho] at he
  split at he
  · exact he.elim
  · rename_i hw
    rw [wanted_slot hw (fun t ht => hslot t (.inr ht))]
    simp only [Bool.false_eq_true, if_false]
    refine hk _ _ _ _ _ _ (fin β (.tuple []) undef h w _ (.refl I.tn.rel) (.tuple .nil) (.inr ⟨_, rfl, rfl⟩) ?_) he
    intro e m1 m3 hei hSe
    refine ⟨fun hk1 => ?_, fun _ => rfl⟩
    obtain ⟨_, _, frj, d, r, y, _, _, _, _, q3⟩ := m3
    rcases q3 with q3 | q3 | q3
    · omega
    · exact q3.2.2.2
    · omega
  · rename_i hw
    rw [wanted_slot hw (fun t ht => hslot t (.inr ht))]
    simp only [if_true]
    left
    rw [hEo] at he
    simp only [if_true] at he
    refine stepE_sound hc hck (FR_keep (fun t ht => hslot t (.inl ht))) I.tn.rel (Comp.all_bind.1 he) ?_
    intro v h' v' β' w' hq hv htn
    simp only at hq
    split at hq
    · rename_i hst
      refine hk _ _ _ _ _ _ (fin β' v v' h' w' tr htn hv (.inl rfl) ?_) hq
      intro e m1 m3 hei hSe
      have hnE : ¬ isEAt ops e.i := fun h => hSe (I.es _ hei h)
      have hstab : stableE cf h h' e = true := by
        rcases D.un done (i, un) rest hs ⟨o, ho, hEo⟩ e.i hei hnE with hb | hb
        · exact absurd (bf_ready I.clo hready hb) hSe
        · exact stable_mem hst e m1 hb
      unfold stableE at hstab
      refine ⟨fun hk1 => ?_, fun hk2 => ?_⟩
      · rw [hk1] at hstab
        simp only at hstab
        split at hstab
        · rename_i u2 hu2
          rw [hu2, AV.same_eq hstab]
        · simp at hstab
      · rw [hk2] at hstab
        exact sameObj_eq hstab
    · exact hq.elim
end
end Go.AM
namespace Go.AM
section
variable {P : Program} {cf : Cfg} {ck : CallK}
variable {ops : Array Oper} {s : List (Nat × List Nat)} {fr0 : Fr} {β0 : Inj} {h0 : AHeap} {w0 : World} {n : Nat} {ds : List Deferred} {Q : Fr × AHeap → Prop}

theorem mem_ready {listed : Array Bool} {i : Nat} : i ∈ Region.ready .any ops listed ↔ i < ops.size ∧ listed.getD i true = false ∧ ∀ p, predOf ops p i → listed.getD p false = true := by
  unfold Region.ready
  simp only [List.mem_filter, List.mem_range, Bool.and_eq_true, Bool.not_eq_true']
  constructor
  · rintro ⟨h1, h2, h3⟩
    refine ⟨h1, h2, ?_⟩
    rintro p ⟨o, e, ho, he, hb, rfl⟩
    rw [ho] at h3
    simp only [Option.map_some, Option.getD_some, Array.all_eq_true'] at h3
    have := h3 e (by simpa using he)
    simp [hb] at this
    simpa using this
  · rintro ⟨h1, h2, h3⟩
    refine ⟨h1, h2, ?_⟩
    rw [Array.getElem?_eq_getElem h1]
    simp only [Option.map_some, Option.getD_some, Array.all_eq_true']
    intro e he
    by_cases hb : Region.binds .any e = true
    · have := h3 e.on ⟨ops[i], e, Array.getElem?_eq_getElem h1, by simpa using he, hb, rfl⟩
      simp [this]
    · simp at hb; simp [hb]

def unl (listed : Array Bool) : Nat := listed.toList.count false

theorem count_set_true : ∀ (l : List Bool) (i : Nat), l[i]? = some false → (l.set i true).count false + 1 = l.count false
  | [], i, h => by simp at h
  | a :: l, 0, h => by
    simp at h; subst h; simp
  | a :: l, i + 1, h => by
    simp at h
    have := count_set_true l i h
    simp only [List.set_cons_succ, List.count_cons]
    omega

theorem unl_set {listed : Array Bool} {i : Nat} (h : listed.getD i true = false) : unl (listed.setIfInBounds i true) + 1 = unl listed := by
  unfold unl
  rw [Array.toList_setIfInBounds]
  refine count_set_true _ _ ?_
  rw [Array.getD_eq_getD_getElem?] at h
  cases hx : listed[i]? with
  | none => simp [hx] at h
  | some b => simp [hx] at h; simp [h] at hx ⊢; exact hx

theorem unl_pos {listed : Array Bool} {i : Nat} (h : listed.getD i true = false) : 0 < unl listed := by
  have := unl_set h; omega

theorem listed_set {listed : Array Bool} {i : Nat} (h : listed.getD i true = false) (j : Nat) : (listed.setIfInBounds i true).getD j false = true ↔ listed.getD j false = true ∨ j = i := by
  have hlt : i < listed.size := by
    by_cases hlt : i < listed.size
    · exact hlt
    · simp [Array.getD_eq_getD_getElem?, hlt] at h
  simp only [Array.getD_eq_getD_getElem?, Array.getElem?_setIfInBounds]
  by_cases hij : i = j
  · subst hij; simp [hlt]
  · rw [if_neg hij]
    constructor
    · exact .inl
    · rintro (h | rfl)
      · exact h
      · exact absurd rfl hij

/-- When nothing is ready all is done. -/
theorem all_done (D : DrOk ops s) {listed : Array Bool} {S : Nat → Prop} (hS : ∀ j, S j ↔ listed.getD j false = true) (hsz : listed.size = ops.size) (hr : Region.ready .any ops listed = []) :
    ∀ (r d : List (Nat × List Nat)), s = d ++ r → (∀ i ∈ d.map (·.1), S i) → ∀ i ∈ s.map (·.1), S i
  | [], d, hs, hd => by simpa [hs] using hd
  | x :: r, d, hs, hd => by
    have hx : S x.1 := by
      by_cases h : S x.1
      · exact h
      · have hlt : x.1 < ops.size := D.lt _ (by rw [hs]; simp)
        have : x.1 ∈ Region.ready .any ops listed := by
          refine mem_ready.2 ⟨hlt, ?_, fun p hp => (hS p).1 (hd p (D.edges d x r hs p hp))⟩
          rw [hS] at h
          rw [Array.getD_eq_getD_getElem?, Array.getElem?_eq_getElem (by omega)] at h ⊢
          simpa using h
        rw [hr] at this
        simp at this
    refine all_done D hS hsz hr r (d ++ [x]) (by simp [hs]) ?_
    intro i hi
    simp at hi
    rcases hi with ⟨b, hi⟩ | rfl
    · exact hd i (List.mem_map.2 ⟨_, hi, rfl⟩)
    · exact hx

theorem DI.iff {done rest : List (Nat × List Nat)} {fr : Fr} {h : AHeap} {tr : List DrE} {S S' : Nat → Prop} {β : Inj} {a : Act} {w : World} (I : DI cf ops s fr0 β0 h0 w0 n ds done rest fr h tr S β a w) (e : ∀ j, S j ↔ S' j) :
    DI cf ops s fr0 β0 h0 w0 n ds done rest fr h tr S' β a w := by
  have : S = S' := funext fun j => propext (e j)
  exact this ▸ I

theorem any_sound (hc : MtOk P cf) (hck : CallsOk P ck) (D : DrOk ops s) (hok : opsOk n ops) {Qx : Exit → Act → World → Prop}
    (hk : ∀ fr h β a w, Q (fr, h) → FR β fr a.tmps → TnW β0 h0 w0 β h w → a.tmps.size = n → a.defers = ds → Qx .normal a w) :
    ∀ (fuel : Nat) (listed : Array Bool) (S : Nat → Prop) (done rest : List (Nat × List Nat)) (fr : Fr) (h : AHeap) (tr : List DrE) (β : Inj) (a : Act) (w : World),
      (∀ j, S j ↔ listed.getD j false = true) → listed.size = ops.size → unl listed ≤ fuel →
      DI cf ops s fr0 β0 h0 w0 n ds done rest fr h tr S β a w → (execDr cf ck ops rest fr h tr).all Q → wpAny P .any ops Qx fuel listed a w := by
  have fin : ∀ (listed : Array Bool) (S : Nat → Prop) (done rest : List (Nat × List Nat)) (fr : Fr) (h : AHeap) (tr : List DrE) (β : Inj) (a : Act) (w : World),
      (∀ j, S j ↔ listed.getD j false = true) → listed.size = ops.size →
      DI cf ops s fr0 β0 h0 w0 n ds done rest fr h tr S β a w → (execDr cf ck ops rest fr h tr).all Q → Region.ready .any ops listed = [] → Qx .normal a w := by
    intro listed S done rest fr h tr β a w hS hsz I he hr
    have hall := all_done D hS hsz hr s [] rfl (by simp)
    cases rest with
    | cons x r =>
      have h1 := hall x.1 (by rw [I.split]; simp)
      exact absurd (I.sub _ h1) (D.nodup_split I.split).1
    | nil =>
      simp only [execDr, Comp.all] at he
      exact hk fr h β a w he (fun t => I.frS t (fun i hi _ => hall i (by rw [I.split]; simpa using hi))) I.tn I.size I.defs
  intro fuel
  induction fuel with
  | zero =>
    intro listed S done rest fr h tr β a w hS hsz hu I he
    have hr : Region.ready .any ops listed = [] := by
      cases hx : Region.ready .any ops listed with
      | nil => rfl
      | cons i l =>
        have hi : i ∈ Region.ready .any ops listed := by rw [hx]; simp
        have := unl_pos (mem_ready.1 hi).2.1
        omega
    exact ⟨hr, fin _ _ _ _ _ _ _ _ _ _ hS hsz I he hr⟩
  | succ fuel ih =>
    intro listed S done rest fr h tr β a w hS hsz hu I he
    refine ⟨fin _ _ _ _ _ _ _ _ _ _ hS hsz I he, ?_⟩
    intro i hi
    obtain ⟨hlt, hun, hp⟩ := mem_ready.1 hi
    have hready : ∀ p, predOf ops p i → S p := fun p h => (hS p).2 (hp p h)
    have hSi : ¬ S i := by
      intro h
      rw [hS] at h
      rw [Array.getD_eq_getD_getElem?, Array.getElem?_eq_getElem (by omega)] at h hun
      simp at h hun
      rw [h] at hun
      simp at hun
    obtain ⟨done', rest', fr', h', tr', I', he', hhd⟩ := advance D rest done fr h tr S β a w I he
    have hunl := unl_set hun
    have hS' := listed_set hun
    have his : i ∈ s.map (·.1) := D.full i hlt
    rw [I'.split, List.map_append, List.mem_append] at his
    rcases his with hid | hir
    · refine I'.pending hc.toRdOk D hok hid hSi hready fun β' a' w' I2 => ?_
      exact ih _ _ _ _ _ _ _ _ _ _ (fun j => by rw [hS', ← hS]) (by simpa using hsz) (by omega) I2 he'
    · rcases hhd with rfl | ⟨x, r, rfl, hE⟩
      · simp at hir
      · have hix : i = x.1 := by
          by_cases hix : i = x.1
          · exact hix
          · exfalso
            have hir' : i ∈ r.map (·.1) := by
              simp at hir
              rcases hir with hir | ⟨b, hir⟩
              · exact absurd hir hix
              · exact List.mem_map.2 ⟨_, hir, rfl⟩
            obtain ⟨n1, n2, n3⟩ := D.nodup_split I'.split
            by_cases hEi : isEAt ops i
            · rcases D.chain i x.1 hEi hE hix with hb | hb
              · exact n3 i (D.before hb _ _ _ I'.split rfl) hir'
              · exact n1 (I'.sub _ (bf_ready I'.clo hready hb))
            · obtain ⟨p, hp1, hp2⟩ := D.sat _ _ _ I'.split hE i hir' hEi
              exact hp2 (I'.sub _ (hready p hp1))
        subst hix
        refine I'.effect hc hck D hok he' hE hready fun fr2 h2 tr2 β' a' w' I2 he2 => ?_
        exact ih _ _ _ _ _ _ _ _ _ _ (fun j => by rw [hS', ← hS]) (by simpa using hsz) (by omega) I2 he2

theorem unl_fresh (k : Nat) : unl (Array.replicate k false) = k := by
  simp [unl]

/-- A region whose order is drawn. -/
theorem drawn_sound (hm : P.follows .mixedOrders = true) (hc : MtOk P cf) (hck : CallsOk P ck) (D : DrOk ops s) {a : Act} {w : World} (hok : opsOk a.tmps.size ops) {id : Nat} {β : Inj} {fr : Fr} {h : AHeap}
    (hf : FR β fr a.tmps) (hr : HR β h w.heap) (he : (execDr cf ck ops s fr h []).all Q) {Qx : Exit → Act → World → Prop}
    (hk : ∀ fr' h' β' a' w', Q (fr', h') → FR β' fr' a'.tmps → TnW β h w β' h' w' → a'.tmps.size = a.tmps.size → a'.defers = a.defers → Qx .normal a' w') : (Code.region id ops true).wp P Qx a w := by
  refine wp_region_any hm ?_
  refine any_sound (n := a.tmps.size) (ds := a.defers) (fr0 := fr) (β0 := β) (h0 := h) (w0 := w) hc hck D hok hk ops.size _ (fun _ => False) [] s fr h [] β a _ ?_ (by simp) (by rw [unl_fresh]; exact Nat.le_refl _) ?_ he
  · intro j
    simp [Array.getD_eq_getD_getElem?, Array.getElem?_replicate]
    split <;> simp
  · refine ⟨by simp, by simp, by simp, by simp, ⟨.refl hr, ⟨rfl, rfl, rfl⟩⟩, by simp, fun t _ => hf t, fun _ _ => rfl, by simp, by simp, by simp, rfl, rfl⟩
end
end Go.AM
namespace Go.AM

def CodeOk (an : Ann) (n : Nat) : Code → Prop
  | .skip => True
  | .region _ ops false => opsOk n ops
  | .region id ops true => opsOk n ops ∧ ∀ s, an.dr id = some s → DrOk ops s
  | .seq a b => CodeOk an n a ∧ CodeOk an n b
  | .cond _ a b => CodeOk an n a ∧ CodeOk an n b
  | .block _ a => CodeOk an n a
  | .loop a => CodeOk an n a
  | .exit _ => True
  | .ret => True
  | _ => True

def AExit.toExit : AExit → Exit
  | .normal => .normal
  | .exit id => .exit id
  | .ret => .ret

section
variable {P : Program} {cf : Cfg} {ck : CallK}

theorem opsOk.le {n m : Nat} {ops : Array Oper} (h : opsOk n ops) (hle : n ≤ m) : opsOk m ops := fun i o ho d hd => Nat.lt_of_lt_of_le (h i o ho d hd) hle

/-- Where a piece of code may come to. -/
def Comes' (β : Inj) (h : AHeap) (a : Act) (w : World) (Q : AExit × Fr × AHeap → Prop) (Qx : Exit → Act → World → Prop) : Prop :=
  ∀ e fr' h' β' a' w', Q (e, fr', h') → FR β' fr' a'.tmps → TnW β h w β' h' w' → a'.tmps.size = a.tmps.size → a'.defers = a.defers → Qx e.toExit a' w'

theorem loop_sound {n : Nat} {body : Code} {ks : Option Nat} {f : Fr → AHeap → Comp (AExit × Fr × AHeap)}
    (hb : ∀ {Q : AExit × Fr × AHeap → Prop} {fr h β a w Qx}, (f fr h).all Q → FR β fr a.tmps → HR β h w.heap → n ≤ a.tmps.size → Comes' β h a w Q Qx → body.wp P Qx a w)
    {Q : AExit × Fr × AHeap → Prop} {Qx : Exit → Act → World → Prop} :
    ∀ (k : Nat) (fr : Fr) (h : AHeap) (β : Inj) (a : Act) (w : World), (loopN f ks k fr h).all Q → FR β fr a.tmps → HR β h w.heap → n ≤ a.tmps.size → Comes' β h a w Q Qx →
      Code.rounds P body Qx k a w := by
  intro k
  induction k with
  | zero => intro fr h β a w he; exact he.elim
  | succ k ih =>
    intro fr h β a w he hf hr hn hk
    rw [rounds_succ]
    simp only [loopN] at he
    refine hb (Comp.all_bind.1 he) (hf.keep ks) hr hn ?_
    intro e fr' h' β' a' w' q1 q2 q3 q4 q5
    cases e with
    | normal =>
      simp only at q1
      refine ih fr' h' β' a' w' q1 q2 q3.rel (by omega) ?_
      intro e2 fr2 h2 β2 a2 w2 r1 r2 r3 r4 r5
      exact hk _ _ _ _ _ _ r1 r2 (q3.trans r3) (by omega) (by rw [r5, q5])
    | exit id => exact hk (.exit id) _ _ _ _ _ q1 q2 q3 q4 q5
    | ret => exact hk .ret _ _ _ _ _ q1 q2 q3 q4 q5

theorem exec_sound (hm : P.follows .mixedOrders = true) (hc : MtOk P cf) (hck : CallsOk P ck) {an : Ann} {n : Nat} : ∀ (c : Code) (blk : Nat) {Q : AExit × Fr × AHeap → Prop} {fr : Fr} {h : AHeap} {β : Inj} {a : Act} {w : World} {Qx : Exit → Act → World → Prop},
    CodeOk an n c → (exec cf ck an blk c fr h).all Q → FR β fr a.tmps → HR β h w.heap → n ≤ a.tmps.size → Comes' β h a w Q Qx → c.wp P Qx a w := by
  intro c
  induction c with
  | skip =>
    intro blk Q fr h β a w Qx hok he hf hr hn hk
    simp only [exec, Comp.all] at he
    exact wp_skip (hk .normal _ _ _ _ _ he hf (.refl hr) rfl rfl)
  | region id ops draw =>
    intro blk Q fr h β a w Qx hok he hf hr hn hk
    cases draw with
    | false =>
      simp only [exec] at he
      simp only [CodeOk] at hok
      refine wp_region ?_
      rw [List.range_eq_range']
      refine execOps_sound (Qx := Qx) hc hck ops.toList 0 fr h β a w (by simp) (Comp.all_bind.1 he) hf hr (hok.le hn) ?_
      intro fr' h' β' a' w' q1 q2 q3 q4 q5
      exact hk .normal _ _ _ _ _ q1 (q2.keep _) q3 q4 q5
    | true =>
      simp only [exec] at he
      simp only [CodeOk] at hok
      split at he
      · exact he.elim
      · rename_i s hs
        refine drawn_sound hm hc hck (hok.2 s hs) (hok.1.le hn) hf hr (Comp.all_bind.1 he) ?_
        intro fr' h' β' a' w' q1 q2 q3 q4 q5
        exact hk .normal _ _ _ _ _ q1 (q2.keep _) q3 q4 q5
  | seq x y ihx ihy =>
    intro blk Q fr h β a w Qx hok he hf hr hn hk
    simp only [exec] at he
    refine wp_seq (ihx blk hok.1 (Comp.all_bind.1 he) hf hr hn ?_)
    intro e fr' h' β' a' w' q1 q2 q3 q4 q5
    cases e with
    | normal =>
      refine ihy blk hok.2 q1 q2 q3.rel (by omega) ?_
      intro e2 fr2 h2 β2 a2 w2 r1 r2 r3 r4 r5
      exact hk _ _ _ _ _ _ r1 r2 (q3.trans r3) (by omega) (by rw [r5, q5])
    | exit id => exact hk (.exit id) _ _ _ _ _ q1 q2 q3 q4 q5
    | ret => exact hk .ret _ _ _ _ _ q1 q2 q3 q4 q5
  | cond o x y ihx ihy =>
    intro blk Q fr h β a w Qx hok he hf hr hn hk
    simp only [exec] at he
    have hev := ev_sound hf o
    split at he
    · rename_i hb
      rw [hb] at hev
      refine wp_cond_true (by generalize a.eval o = u at hev; cases hev; rfl) (ihx blk hok.1 he hf hr hn hk)
    · rename_i hb
      rw [hb] at hev
      refine wp_cond_false (by generalize a.eval o = u at hev; cases hev; rfl) (ihy blk hok.2 he hf hr hn hk)
    · exact he.elim
  | block id body ih =>
    intro blk Q fr h β a w Qx hok he hf hr hn hk
    simp only [exec] at he
    refine wp_block (ih id hok (Comp.all_bind.1 he) hf hr hn ?_)
    intro e fr' h' β' a' w' q1 q2 q3 q4 q5
    cases e with
    | normal => exact hk .normal _ _ _ _ _ q1 q2 q3 q4 q5
    | exit id' =>
      simp only [Comp.all] at q1
      simp only [AExit.toExit, Exit.inBlock]
      split
      · rename_i hid
        rw [if_pos hid] at q1
        exact hk .normal _ _ _ _ _ q1 q2 q3 q4 q5
      · rename_i hid
        rw [if_neg hid] at q1
        exact hk (.exit id') _ _ _ _ _ q1 q2 q3 q4 q5
    | ret => exact hk .ret _ _ _ _ _ q1 q2 q3 q4 q5
  | loop body ih =>
    intro blk Q fr h β a w Qx hok he hf hr hn hk
    simp only [exec] at he
    refine wp_loop_rounds cf.lf ?_
    exact loop_sound (n := n) (f := exec cf ck an blk body) (fun h1 h2 h3 h4 h5 => ih blk hok h1 h2 h3 h4 h5) cf.lf fr h β a w he hf hr hn hk
  | exit id =>
    intro blk Q fr h β a w Qx hok he hf hr hn hk
    simp only [exec, Comp.all] at he
    exact wp_exit (hk (.exit id) _ _ _ _ _ he hf (.refl hr) rfl rfl)
  | ret =>
    intro blk Q fr h β a w Qx hok he hf hr hn hk
    simp only [exec, Comp.all] at he
    exact wp_ret (hk .ret _ _ _ _ _ he hf (.refl hr) rfl rfl)
  | rangeFunc => intro blk Q fr h β a w Qx hok he; exact he.elim
  | scope => intro blk Q fr h β a w Qx hok he; exact he.elim
  | label => intro blk Q fr h β a w Qx hok he; exact he.elim
  | goto => intro blk Q fr h β a w Qx hok he; exact he.elim
  | refuse => intro blk Q fr h β a w Qx hok he; exact he.elim

theorem resA_sound (hc : RdOk P cf) {fr : Fr} {h : AHeap} {tmps : Array Value} {w : World} {β : Inj} (hf : FR β fr tmps) (hr : HR β h w.heap) {r : ResultVar} {v : AV} (he : resA cf fr h r = some v) :
    ∃ v', ((match r with | .tmp t => pure (tmps.getD t undef) | .cell a t => do loadVar t (← asAddr (tmps.getD a undef)) : Sem Value)).run P w = .ok v' w ∧ VR β v v' := by
  cases r with
  | tmp t =>
    simp [resA] at he; subst he
    exact ⟨_, rfl, hf t⟩
  | cell a t =>
    simp only [resA] at he
    have hx := hf a
    split at he
    · rename_i p hp
      rw [hp] at hx
      obtain ⟨b, o⟩ := p
      replace he := opt_do he
      obtain ⟨i, hi, he⟩ := he
      generalize hv : tmps.getD a undef = u at hx
      cases hx with
      | ptr hb =>
        obtain ⟨v', g1, g2⟩ := ldVar_sound he (hc.ty _ _ hi) hr hb
        refine ⟨v', ?_, g2⟩
        simp only [hv, asAddr, Sem.run_bind, Sem.run_pure, Result.andThen_ok]
        exact g1
    · simp at he

theorem ressA_sound (hc : RdOk P cf) {fr : Fr} {h : AHeap} {tmps : Array Value} {w : World} {β : Inj} (hf : FR β fr tmps) (hr : HR β h w.heap) : ∀ {l : List ResultVar} {vs : List AV}, ressA cf fr h l = some vs →
    ∃ vs', ((l.mapM (fun (r : ResultVar) => (match r with | .tmp t => pure (tmps.getD t undef) | .cell a t => do loadVar t (← asAddr (tmps.getD a undef)) : Sem Value)) : Sem (List Value)).run P w = .ok vs' w) ∧ VRs β vs vs'
  | [], vs, he => by simp [ressA] at he; subst he; exact ⟨[], rfl, .nil⟩
  | r :: l, vs, he => by
    simp only [ressA] at he
    replace he := opt_do he
    obtain ⟨v, hv, he⟩ := he
    cases hl : ressA cf fr h l with
    | none => simp [hl] at he
    | some us =>
      simp [hl] at he; subst he
      obtain ⟨v', g1, g2⟩ := resA_sound hc hf hr hv
      obtain ⟨us', g3, g4⟩ := ressA_sound hc hf hr hl
      refine ⟨v' :: us', ?_, .cons g2 g4⟩
      rw [List.mapM_cons]
      simp only [Sem.run_bind, g1, Result.andThen_ok, g3, Sem.run_pure]

theorem results_sound (hc : RdOk P cf) {fr : Fr} {h : AHeap} {tmps : Array Value} {w : World} {β : Inj} {fn : Func} {v : AV} (hf : FR β fr tmps) (hr : HR β h w.heap) (he : resultsA cf fr h fn.results.toList = some v) :
    ∃ v', (results fn tmps).run P w = .ok v' w ∧ VR β v v' := by
  unfold resultsA at he
  cases hl : ressA cf fr h fn.results.toList with
  | none => simp [hl] at he
  | some vs =>
    simp [hl] at he; subst he
    obtain ⟨vs', g1, g2⟩ := ressA_sound hc hf hr hl
    unfold results
    simp only [Array.mapM_eq_mapM_toList, Sem.run_bind, Sem.run_map]
    erw [g1]
    simp only [Result.andThen_ok, Sem.run_pure]
    refine ⟨_, rfl, ?_⟩
    cases g2 with
    | nil => exact .tuple .nil
    | cons h1 t1 =>
      cases t1 with
      | nil => exact h1
      | cons h2 t2 => exact .tuple (.cons h1 (.cons h2 t2))


/-- A primitive, its contract. -/
def PrimOk (P : Program) (f : FuncId) (p : List AV → AHeap → Option (Comp (AV × AHeap))) : Prop :=
  ∀ args h c, p args h = some c → ∀ Q, c.all Q → Enters P f ∧ ∀ (β : Inj) (w : World) (args' : Array Value), VRs β args args'.toList → HR β h w.heap → Calls P f args' w (CallPost β h w Q)

structure CfgOk (P : Program) (cf : Cfg) : Prop extends MtOk P cf where
  mixed : P.follows .mixedOrders = true
  code : ∀ f fn, cf.code f = some fn → P.funcs[f]? = some fn ∧ (fn.name == "runtime.NumGoroutine") = false ∧ ∀ c, fn.body = some c → CodeOk (cf.ann f) fn.ntmps c
  prim : ∀ f p, cf.prim f = some p → PrimOk P f p

theorem argsFr_lt : ∀ {args : List AV} {i t : Nat}, t < i → (argsFr i args).get t = .dead
  | [], i, t, h => rfl
  | a :: args, i, t, h => by
    simp only [argsFr, Fr.get, bcond]
    rw [if_neg (by omega)]
    exact argsFr_lt (by omega)

theorem argsFr_sound {β : Inj} : ∀ {args : List AV} {vs : List Value} (i : Nat), VRs β args vs → ∀ t, i ≤ t → VR β ((argsFr i args).get t) ((vs[t - i]?).getD undef)
  | [], vs, i, h, t, hti => by simp [argsFr, Fr.get]; exact .dead _
  | a :: args, _, i, .cons (vs := vs) h ht, t, hti => by
    simp only [argsFr, Fr.get, bcond]
    split
    · rename_i e
      have : t - i = 0 := by omega
      rw [this]; exact h
    · rename_i e
      have : t - i = (t - (i + 1)) + 1 := by omega
      rw [this]
      exact argsFr_sound (i + 1) ht t (by omega)

theorem args_FR {β : Inj} {args : List AV} {args' : Array Value} (h : VRs β args args'.toList) (n : Nat) : FR β (argsFr 0 args) (args' ++ Array.replicate (n - args'.size) undef) := by
  intro t
  have := argsFr_sound 0 h t (Nat.zero_le _)
  by_cases ht : t < args'.size
  · rw [Array.getD_eq_getD_getElem?, Array.getElem?_append_left ht]
    simpa using this
  · have hl := h.length
    have hd : (argsFr 0 args).get t = .dead := by
      have key : ∀ (l : List AV) (i : Nat), i + l.length ≤ t → (argsFr i l).get t = .dead := by
        intro l
        induction l with
        | nil => intro i _; rfl
        | cons a l ih =>
          intro i hi
          simp only [List.length_cons] at hi
          simp only [argsFr, Fr.get, bcond]
          rw [if_neg (by omega)]
          exact ih _ (by omega)
      exact key _ _ (by simp at hl; omega)
    rw [hd]; exact .dead _

/-- The machine's calls are the program's. -/
theorem call_sound (hc : CfgOk P cf) : ∀ n, CallsOk P (call cf n) := by
  intro n
  induction n with
  | zero => intro f args h Q he; exact he.elim
  | succ n ih =>
    intro f args h Q he
    simp only [call] at he
    split at he
    · rename_i c hp
      unfold Cfg.primAt at hp
      split at hp
      · rename_i p hpf
        exact hc.prim f p hpf args h c hp Q he
      · exact absurd hp (by simp)
    · unfold callCode at he
      split at he
      · exact he.elim
      · rename_i fn hfn
        obtain ⟨c1, c2, c3⟩ := hc.code f fn hfn
        split at he
        · exact he.elim
        · rename_i c hb
          refine ⟨⟨fn, c1, by rw [hb]; rfl, c2⟩, fun β w args' ha hh => ?_⟩
          refine calls_of_wp c1 hb ?_
          refine exec_sound hc.mixed hc.toMtOk ih (an := cf.ann f) (n := fn.ntmps) c 0 (c3 c hb) (Comp.all_bind.1 he) (args_FR ha _) hh (by simp; omega) ?_
          intro e fr' h' β' a' w' q1 q2 q3 q4 q5
          cases e with
          | exit id => exact q1.elim
          | normal =>
            simp only at q1
            obtain ⟨r, hr, hq⟩ := Comp.all_of.1 q1
            cases hres : resultsA cf fr' h' fn.results.toList with
            | none => simp [hres] at hr
            | some v =>
              simp [hres] at hr; subst hr
              obtain ⟨v', g1, g2⟩ := results_sound hc.toRdOk q2 q3.rel hres
              exact ⟨q5, v', g1, v, h', v', β', hq, rfl, g2, q3⟩
          | ret =>
            simp only at q1
            obtain ⟨r, hr, hq⟩ := Comp.all_of.1 q1
            cases hres : resultsA cf fr' h' fn.results.toList with
            | none => simp [hres] at hr
            | some v =>
              simp [hres] at hr; subst hr
              obtain ⟨v', g1, g2⟩ := results_sound hc.toRdOk q2 q3.rel hres
              exact ⟨q5, v', g1, v, h', v', β', hq, rfl, g2, q3⟩

end
end Go.AM
