import Derived.Test.YtkpcaljbmbfkfaaGreatA0
import Derived.Laws.RangeString
set_option linter.unusedSimpArgs false
set_option linter.unusedVariables false
namespace Go.Ab
open Go Go.RowKit
theorem setObj_below {B : Fr} {r : Nat} (h : ¬ B.K r) (w : World) (o : Obj) : Bel B w { w with heap := w.heap.setIfInBounds r o } :=
  ⟨rfl, rfl, rfl, by simp, fun k hk => by
    have : r ≠ k := fun e => h (e ▸ hk)
    simp [this]⟩
section
variable {P : Program} {m : List (Option Nat)} {sl : List (Nat × Pa)}
theorem appOr_ok {t el i z} (hI : Item P t el i z) {h : H} {s : V} {j : Nat} {new : V} {k : K} {a} (q : appOr h i.size s j new k = some a) :
    ∃ v h', (∀ k', appOr h i.size s j new k' = k' v h') ∧ k v h' = some a ∧
    ∀ σ B w0 w tx ty sv x news, HR σ B w0 h w → VR σ s sv → Src P i.size tx x j news w → VL σ new news → AllSc news →
      ∃ cv w' σ', (Builtin.append_ #[t, tx] ty #[sv, x]).run P w = .ok cv w' ∧ Le σ σ' ∧ VR σ' v cv ∧ HR σ' B w0 h' w' := by
  cases j with
  | succ j => exact append_ok hI (Nat.succ_pos j) q
  | zero =>
    have h0 : ∀ {σ : Sg} {w : World} {tx : TypeId} {x : Value} {news : List Value}, Src P i.size tx x 0 news w → news = [] := fun hs => List.eq_nil_of_length_eq_zero (by rw [hs.newsLen]; simp)
    rcases elL_inv q with ⟨rfl, q1⟩ | ⟨b, o, n, c, e', ex, rfl, q1⟩
    · refine ⟨.ns, h, fun k' => rfl, q1, fun σ B w0 w tx ty sv x news hr hs hsrc hv hsc => ?_⟩
      have := h0 (σ := σ) hsrc
      subst this
      rw [VR1 hs]
      exact ⟨_, w, σ, run_append_nothing w t tx ty el i hI.ht hI.hi none 0 0 (Nat.le_refl _) x hsrc, .refl _, .ns, hr⟩
    · refine ⟨.sl b o n c e' ex, h, fun k' => rfl, q1, fun σ B w0 w tx ty sv x news hr hs hsrc hv hsc => ?_⟩
      have := h0 (σ := σ) hsrc
      subst this
      have hs' := hs
      obtain ⟨loc, ad, c', hloc, rfl, h1, h2, h3, h4, h5⟩ := VRsl hs
      exact ⟨_, w, σ, run_append_nothing w t tx ty el i hI.ht hI.hi (some ad) n c' (by omega) x hsrc, .refl _, hs', hr⟩
theorem s_append {t tx el e' i z s x os ox} (hI : Item P t el i z) (hk : P.underlying tx = some (.slice e')) (hs : OdOK m sl s os) (hx : OdOK m sl x ox) :
    SOK P m sl (aAppend i.size s x) (.call ⟨.builtin .append, #[os, ox], #[t, tx]⟩) := by
  intro env ρ tm h k ans e
  obtain ⟨sv, s1, e1⟩ := hs.reg _ _ _ _ e
  obtain ⟨xv, x1, e2⟩ := hx.reg _ _ _ _ e1
  obtain ⟨j, l, l1, e3, l2⟩ := srcL_inv (P := P) hk e2
  obtain ⟨v, h', a1, e4, a2⟩ := appOr_ok hI e3
  refine ⟨v, h', fun env' k' => ?_, e4, fun σ B w0 w act r hr o' ho => ?_⟩
  · show s ρ tm _ = _
    rw [s1]
    show x ρ tm _ = _
    rw [x1, l1]; exact a1 _
  · obtain ⟨news, g1, g2, g3⟩ := l2 σ B w0 w _ hr (hx.val _ _ _ _ _ r x1)
    obtain ⟨dd, op', ty, pos, af, gd⟩ := o'
    subst ho
    obtain ⟨cv, w', σ', f1, f2, f3, f4⟩ := a2 σ B w0 w tx ty _ _ news hr (hs.val _ _ _ _ _ r s1) g1 g2 g3
    refine ⟨_, w', cv, σ', ?_, .inl rfl, f2, f3, f4⟩
    simp [execOp, resolve, invoke, builtin, f1]
theorem s_appendS {t tx el i z s x os ox} (hI : Item P t el i z) (h1 : i.size = 1) (hk : P.underlying tx = some .string) (hs : OdOK m sl s os) (hx : OdOK m sl x ox) :
    SOK P m sl (aAppendS s x) (.call ⟨.builtin .append, #[os, ox], #[t, tx]⟩) := by
  intro env ρ tm h k ans e
  obtain ⟨sv, s1, e1⟩ := hs.reg _ _ _ _ e
  obtain ⟨xv, x1, e2⟩ := hx.reg _ _ _ _ e1
  obtain ⟨j, l, l1, e3, l2⟩ := srcS_inv (P := P) hk e2
  rw [← h1] at e3
  obtain ⟨v, h', a1, e4, a2⟩ := appOr_ok hI e3
  refine ⟨v, h', fun env' k' => ?_, e4, fun σ B w0 w act r hr o' ho => ?_⟩
  · show s ρ tm _ = _
    rw [s1]
    show x ρ tm _ = _
    rw [x1, l1, ← h1]; exact a1 _
  · obtain ⟨news, g1, g2, g3⟩ := l2 σ w _ (hx.val _ _ _ _ _ r x1)
    rw [← h1] at g1
    obtain ⟨dd, op', ty, pos, af, gd⟩ := o'
    subst ho
    obtain ⟨cv, w', σ', f1, f2, f3, f4⟩ := a2 σ B w0 w tx ty _ _ news hr (hs.val _ _ _ _ _ r s1) g1 g2 g3
    refine ⟨_, w', cv, σ', ?_, .inl rfl, f2, f3, f4⟩
    simp [execOp, resolve, invoke, builtin, f1]
theorem r_lenM {x o t kt et} (ht : P.underlying t = some (.map kt et)) (hx : OdOK m sl x o) : ROK P m sl (aLenM x) (.call ⟨.builtin .len, #[o], #[t]⟩) := by
  intro env ρ tm h k ans e
  obtain ⟨v, x1, e1⟩ := hx.reg _ _ _ _ e
  rcases elM_inv e1 with ⟨rfl, e2⟩ | ⟨r, rfl, e2⟩
  · refine ⟨_, fun env' k' => by show x ρ tm _ = _; rw [x1]; rfl, e2, fun σ B w0 w act r hr o' ho => ⟨.int .i64 0, ?_, .i _ _⟩⟩
    have hz := VR2 (hx.val _ _ _ _ _ r x1)
    obtain ⟨d, op', ty, pos, af, gd⟩ := o'
    subst ho
    simp [execOp, resolve, hz, invoke, builtin, Builtin.len_, underlying, ht, goInt]
  · rw [obK_eq] at e2
    obtain ⟨n, l, hob, e3⟩ := asMapOb_inv e2
    refine ⟨_, fun env' k' => by show x ρ tm _ = _; rw [x1]; show obK h r _ = _; rw [obK_eq, hob]; rfl, e3, fun σ B w0 w act rl hr o' ho => ?_⟩
    obtain ⟨loc, hloc, hz⟩ := VRm (hx.val _ _ _ _ _ rl x1)
    obtain ⟨l', hl', ho'⟩ := hr.obs r (by rw [hob]; exact fun x => by cases x)
    rw [hloc] at hl'; cases hl'
    rw [hob] at ho'
    obtain ⟨_, _, es, cl, h1, h2, h3⟩ := ho'
    refine ⟨.int .i64 es.size, ?_, by rw [h2]; exact .i _ _⟩
    have hg : (getObj loc.blk).run P w = .ok (.map es cl) w := by simp only [getObj, Sem.run, h1]
    obtain ⟨d, op', ty, pos, af, gd⟩ := o'
    subst ho
    simp [execOp, resolve, hz, invoke, builtin, Builtin.len_, underlying, ht, goInt, hg]
theorem s_range {x o t} (ht : P.underlying t = some .string) (hx : OdOK m sl x o) : SOK P m sl (aRange x) (.range t o) := by
  intro env ρ tm h k ans e
  obtain ⟨v, x1, e1⟩ := hx.reg _ _ _ _ e
  obtain ⟨n, l, rfl, e2⟩ := elS_inv e1
  rw [newK_eq] at e2
  refine ⟨_, _, fun env' k' => by show x ρ tm _ = _; rw [x1]; show newK h (Ob.iter l 0) (fun b h => k' (V.p b 0) h) = _; exact newK_eq _ _ _, e2, fun σ B w0 w act r hr o' ho => ?_⟩
  obtain ⟨s, hz, hs, hn⟩ := VRs (hx.val _ _ _ _ _ r x1)
  refine ⟨_, _, .pointer (some ⟨w.heap.size, 0, none⟩), upd σ h.nx ⟨w.heap.size, 0, 0⟩, ?_, .inl rfl, Le.upd hr.nxnone, .p _ 0 _ (upd_same _ _ _), hr.new (.stringIter s 0) _ 0 ⟨?_, hr.nk, rfl, s, ?_, by simpa [ba] using hs⟩⟩
  · obtain ⟨dd, op', ty, pos, af, gd⟩ := o'
    subst ho
    simp [execOp, Instr.range, run_und ht, hz]
  · show w.heap.size < (w.alloc _).heap.size
    rw [World.size_alloc]; omega
  · show (w.heap.push (.stringIter s 0))[w.heap.size]? = _; simp
theorem s_next {x o} (hx : OdOK m sl x o) : SOK P m sl (aNext x) (.next o true) := by
  intro env ρ tm h k ans e
  obtain ⟨v, x1, e1⟩ := hx.reg _ _ _ _ e
  obtain ⟨b, off, rfl, e2⟩ := elP_inv e1
  rw [obK_eq] at e2
  obtain ⟨l, pos, hob, e3⟩ := asIter_inv e2
  cases off with
  | succ off => cases e3
  | zero =>
    have hun : ∀ env' k', aNext x env' ρ tm h k' = (List.rec (k' (.tu (.c (.b false) .e)) h) (fun c l _ => Bool.rec none (setOb h b (.iter l (Nat.succ pos)) fun h => k' (.tu (.c (.b true) (.c (.i .i64 (.ofNat pos)) (.c (.i .i32 (.ofNat c)) .e)))) h) (Nat.blt c 128)) l : R) := by
      intro env' k'
      show x ρ tm _ = _
      rw [x1]
      show obK h b _ = _
      rw [obK_eq, hob]; rfl
    have hmem : ∀ σ B w0 w act, Rl σ m sl ρ tm act → HR σ B w0 h w → ∃ loc, σ b = some loc ∧ act.eval o = .pointer (some ⟨loc.blk, 0, none⟩) ∧ loc.blk < w.heap.size ∧ ¬ B.K loc.blk ∧ loc.base = 0 ∧
        ∃ s : ByteArray, w.heap[loc.blk]? = some (.stringIter s pos) ∧ (s.data.toList.drop pos).map UInt8.toNat = l := by
      intro σ B w0 w act r hr
      obtain ⟨loc, hloc, hz⟩ := VRp (hx.val _ _ _ _ _ r x1)
      obtain ⟨l', hl', ho'⟩ := hr.obs b (by rw [hob]; exact fun x => by cases x)
      rw [hloc] at hl'; cases hl'
      rw [hob] at ho'
      obtain ⟨h1, h2, h3, s, h4, h5⟩ := ho'
      exact ⟨loc, hloc, by rw [hz, h3], h1, h2, h3, s, h4, h5⟩
    cases l with
    | nil =>
      refine ⟨_, h, fun env' k' => hun env' k', e3, fun σ B w0 w act r hr o' ho => ?_⟩
      obtain ⟨loc, hloc, hz, h1, h2, h3, s, h4, h5⟩ := hmem σ B w0 w act r hr
      have hsz : ¬ pos < s.size := by
        intro hp
        have := congrArg List.length h5
        simp at this; omega
      have hg : (getObj loc.blk).run P w = .ok (.stringIter s pos) w := by simp only [getObj, Sem.run, h4]
      refine ⟨_, w, .tuple #[.bool false], σ, ?_, .inl rfl, .refl _, .tu _ [_] (.c _ _ _ _ (.b _) .e), hr⟩
      obtain ⟨dd, op', ty, ps, af, gd⟩ := o'
      subst ho
      simp [execOp, Instr.next, hz, hg, hsz]
    | cons c l =>
      have e3' : (Bool.rec none (setOb h b (.iter l (Nat.succ pos)) fun h => k (.tu (.c (.b true) (.c (.i .i64 (.ofNat pos)) (.c (.i .i32 (.ofNat c)) .e)))) h) (Nat.blt c 128) : R) = some ans := e3
      obtain ⟨hlt, e4⟩ := boolT e3'
      have hc : c < 128 := blt_lt hlt
      rw [setOb_eq] at e4
      refine ⟨_, _, fun env' k' => ?_, e4, fun σ B w0 w act r hr o' ho => ?_⟩
      · rw [hun]
        show (Bool.rec none _ (Nat.blt c 128) : R) = _
        rw [hlt]; exact setOb_eq _ _ _ _
      · obtain ⟨loc, hloc, hz, h1, h2, h3, s, h4, h5⟩ := hmem σ B w0 w act r hr
        have hp : pos < s.size := by
          have := congrArg List.length h5
          simp at this; omega
        have hd : s.data.toList.drop pos = s[pos] :: s.data.toList.drop (pos + 1) := List.drop_eq_getElem_cons (by simpa using hp)
        rw [hd] at h5
        simp only [List.map_cons, List.cons.injEq] at h5
        obtain ⟨h6, h7⟩ := h5
        have hdec := decode_ascii s pos hp (by rw [h6]; exact hc)
        have hg : (getObj loc.blk).run P w = .ok (.stringIter s pos) w := by simp only [getObj, Sem.run, h4]
        have hset : ∀ ob, (setObj loc.blk ob).run P w = .ok () { w with heap := w.heap.setIfInBounds loc.blk ob } := by
          intro ob; simp only [setObj, Sem.run, h4]
        refine ⟨_, { w with heap := w.heap.setIfInBounds loc.blk (.stringIter s (pos + 1)) }, .tuple #[.bool true, .int .i64 pos, .int .i32 c], σ, ?_, .inl rfl, .refl _, .tu _ [_, _, _] (.c _ _ _ _ (.b _) (.c _ _ _ _ (.i _ _) (.c _ _ _ _ (.i _ _) .e))), ?_⟩
        · obtain ⟨dd, op', ty, ps, af, gd⟩ := o'
          subst ho
          simp [execOp, Instr.next, hz, hg, hp, hdec, hset, h6, goInt]
        · refine hr.set (.iter l (Nat.succ pos)) hloc (by rw [hob]; rfl) h2 ?_ ?_ ?_ ⟨?_, h2, h3, s, ?_, h7⟩
          · exact setObj_below h2 _ _
          · simp
          · intro k hk; simp [Array.getElem?_setIfInBounds, Ne.symm hk]
          · simpa using h1
          · simp [h1]
/-! a map is written -/
theorem findNow_hit {d : TypeDesc} {kv : Value} : ∀ {es : List MapEntry} {j p : Nat} {v : Value}, Instr.findNow d kv es j = some (some (p, v)) →
    ∃ i e, p = j + i ∧ es[i]? = some e ∧ Instr.sameNow d kv e.key = some true
  | [], _, _, _, h => by simp [Instr.findNow] at h
  | e :: es, j, p, v, h => by
    unfold Instr.findNow at h
    split at h
    · rename_i hs
      simp at h
      exact ⟨0, e, by omega, rfl, hs⟩
    · obtain ⟨i, e', h1, h2, h3⟩ := findNow_hit h
      exact ⟨i + 1, e', by omega, by simpa using h2, h3⟩
    · cases h
theorem same_bits {d : TypeDesc} {q : Cmp} (hq : KeyQ d q) {k k' : Value} (h : Instr.sameNow d k k' = some true) (n : Nat) : Instr.sameBits n k' k = true := by
  cases hq <;> cases k <;> cases k' <;> simp [Instr.sameNow] at h <;> simp [Instr.sameBits, h]
  rename_i s s'
  have h1 : (s.data == s'.data) = true := h
  show (s'.data == s.data) = true
  rw [beq_iff_eq] at h1 ⊢
  exact h1.symm
theorem mset_inv {d : TypeDesc} {q : Cmp} (hq : KeyQ d q) {key v l : V} {c : V → R} {a} (h : mset q key v l c = some a) :
    ∃ l', (∀ c', mset q key v l c' = c' l') ∧ c l' = some a ∧ ∀ σ es kv vv j, MR σ l es → VR σ key kv → VR σ v vv →
      (∃ i e, es[i]? = some e ∧ Instr.findNow d kv es j = some (some (j + i, e.val)) ∧ Instr.sameNow d kv e.key = some true ∧ MR σ l' (es.modify i fun e => { e with key := kv, val := vv })) ∨
      (Instr.findNow d kv es j = some none ∧ ∀ born, MR σ l' (es ++ [⟨kv, vv, born⟩])) := by
  induction l generalizing c with
  | z k =>
    unfold mset at h ⊢
    rw [recC_z] at h ⊢
    by_cases hk : k = 5
    · subst hk
      rw [if_pos rfl] at h
      refine ⟨_, fun _ => by rw [if_pos rfl], h, fun σ es kv vv j hm h1 h2 => .inr ?_⟩
      cases hm
      exact ⟨rfl, fun born => .c _ _ _ _ _ h1 h2 .e⟩
    · rw [if_neg hk] at h; cases h
  | c e r _ ih =>
    have h' : elC e none (fun x _ => q key x fun b => Bool.rec (mset q key v r fun l => c (.c e l)) (c (.c (.c key v) r)) b) = some a := h
    rcases elC_inv h' with ⟨_, h1⟩ | ⟨x, u, rfl, h1⟩
    · cases h1
    · obtain ⟨b, q1, h2, q2⟩ := keyQ_inv hq h1
      have hun : ∀ c', mset q key v (.c (.c x u) r) c' = q key x fun b => Bool.rec (mset q key v r fun l => c' (.c (.c x u) l)) (c' (.c (.c key v) r)) b := fun _ => rfl
      cases b with
      | true =>
        refine ⟨_, fun c' => by rw [hun, q1], h2, fun σ es kv vv j hm h3 h4 => .inl ?_⟩
        cases hm with
        | c _ _ _ en rr m1 m2 m3 =>
          have := q2 σ _ _ h3 m1
          exact ⟨0, en, rfl, by simp [Instr.findNow, this], this, .c _ _ _ _ _ h3 h4 m3⟩
      | false =>
        obtain ⟨l', i1, i2, i3⟩ := ih (c := fun l => c (.c (.c x u) l)) h2
        refine ⟨_, fun c' => by rw [hun, q1]; exact i1 _, i2, fun σ es kv vv j hm h3 h4 => ?_⟩
        cases hm with
        | c _ _ _ en rr m1 m2 m3 =>
          have := q2 σ _ _ h3 m1
          rcases i3 σ rr kv vv (j + 1) m3 h3 h4 with ⟨i, e', g1, g2, g3, g4⟩ | ⟨g1, g2⟩
          · refine .inl ⟨i + 1, e', by simpa using g1, ?_, g3, ?_⟩
            · simp only [Instr.findNow, this, g2]
              congr 3; omega
            · exact .c _ _ _ _ _ m1 m2 g4
          · exact .inr ⟨by simp only [Instr.findNow, this, g1], fun born => .c _ _ _ _ _ m1 m2 (g2 born)⟩
  | _ => cases h
theorem s_mupd {x ix y o oi oy t kt et d q} (ht : P.underlying t = some (.map kt et)) (hq : KeyQ d q) (hd : P.underlying kt = some d) (hx : OdOK m sl x o) (hi : OdOK m sl ix oi) (hy : OdOK m sl y oy) :
    SOK P m sl (aMupd q x ix y) (.mapUpdate t o oi oy) := by
  intro env ρ tm h k ans e
  obtain ⟨xv, x1, e1⟩ := hx.reg _ _ _ _ e
  rcases elM_inv e1 with ⟨rfl, e2⟩ | ⟨r, rfl, e2⟩
  · cases e2
  · obtain ⟨kv, k1, e3⟩ := hi.reg _ _ _ _ e2
    obtain ⟨yv, y1, e4⟩ := hy.reg _ _ _ _ e3
    rw [obK_eq] at e4
    obtain ⟨n, l, hob, e5⟩ := asMapOb_inv e4
    obtain ⟨l', s1, e6, s2⟩ := mset_inv hq e5
    have hun : ∀ env' k', aMupd q x ix y env' ρ tm h k' = mfind q kv l (setOb h r (.map (Nat.succ n) l') fun h => k' undefV h) fun _ => setOb h r (.map n l') fun h => k' undefV h := by
      intro env' k'
      show x ρ tm _ = _
      rw [x1]
      show ix ρ tm _ = _
      rw [k1, y1, obK_eq, hob]
      show mset q kv yv l _ = _
      rw [s1]
    have fin : ∀ (nn : Nat) (es' : Array MapEntry) (cl' : Nat) σ B w0 w (act : Act) (o' : Oper), Rl σ m sl ρ tm act → HR σ B w0 h w → o'.op = .mapUpdate t o oi oy → es'.size = nn → MR σ l' es'.toList →
        (∀ loc es cl, σ r = some loc → w.heap[loc.blk]? = some (.map es cl) → (Instr.mapUpdate t (.map (some loc.blk)) (act.eval oi) (act.eval oy)).run P w = .ok () { w with heap := w.heap.setIfInBounds loc.blk (.map es' cl') }) →
        ∃ nx w' cv σ', (execOp act.eval o').run P w = .ok nx w' ∧ (nx = .value cv ∨ (nx = .skip ∧ cv = undef)) ∧ Le σ σ' ∧ VR σ' undefV cv ∧ HR σ' B w0 (.mk h.nx (st .gone r (.map nn l') h.o)) w' := by
      intro nn es' cl' σ B w0 w act o' rl hr ho hsz hmr hrun
      obtain ⟨loc, hloc, hz⟩ := VRm (hx.val _ _ _ _ _ rl x1)
      obtain ⟨lc, hl', hoo⟩ := hr.obs r (by rw [hob]; exact fun x => by cases x)
      rw [hloc] at hl'; cases hl'
      rw [hob] at hoo
      obtain ⟨b1, b2, es, cl, b3, b4, b5⟩ := hoo
      refine ⟨.skip, _, undef, σ, ?_, .inr ⟨rfl, rfl⟩, .refl _, .undef _, hr.set (.map nn l') hloc (by rw [hob]; rfl) b2 (setObj_below b2 w (.map es' cl')) (by simp) (fun k hk => by simp [Ne.symm hk]) ⟨by simpa using b1, b2, es', cl', by simp [b1], hsz, hmr⟩⟩
      obtain ⟨dd, op', ty, pos, af, gd⟩ := o'
      subst ho
      simp only [execOp, hz, Sem.run_bind, hrun loc es cl hloc b3, Result.andThen_ok, Sem.run_pure]
    have base : ∀ σ B w0 w (act : Act), Rl σ m sl ρ tm act → HR σ B w0 h w → ∃ loc es cl, σ r = some loc ∧ w.heap[loc.blk]? = some (.map es cl) ∧ es.size = n ∧ MR σ l es.toList ∧ VR σ kv (act.eval oi) ∧ VR σ yv (act.eval oy) := by
      intro σ B w0 w act rl hr
      obtain ⟨loc, hloc, hz⟩ := VRm (hx.val _ _ _ _ _ rl x1)
      obtain ⟨lc, hl', hoo⟩ := hr.obs r (by rw [hob]; exact fun x => by cases x)
      rw [hloc] at hl'; cases hl'
      rw [hob] at hoo
      obtain ⟨b1, b2, es, cl, b3, b4, b5⟩ := hoo
      exact ⟨loc, es, cl, hloc, b3, b4, b5, hi.val _ _ _ _ _ rl k1, hy.val _ _ _ _ _ rl y1⟩
    have hset : ∀ {w : World} {blk : Nat} {es cl} ob, w.heap[blk]? = some (Obj.map es cl) → (setObj blk ob).run P w = .ok () { w with heap := w.heap.setIfInBounds blk ob } := by
      intro w blk es cl ob h; simp only [setObj, Sem.run, h]
    have hget : ∀ {w : World} {blk : Nat} {es cl}, w.heap[blk]? = some (Obj.map es cl) → (getObj blk).run P w = .ok (.map es cl) w := by
      intro w blk es cl h; simp only [getObj, Sem.run, h]
    rcases mfind_inv hq e6 with ⟨v', m1, e7, m2⟩ | ⟨m1, e7, m2⟩
    · rw [setOb_eq] at e7
      refine ⟨undefV, _, fun env' k' => by rw [hun, m1]; exact setOb_eq _ _ _ _, e7, fun σ B w0 w act rl hr o' ho => ?_⟩
      obtain ⟨loc, es, cl, g1, g2, g3, g4, g5, g6⟩ := base σ B w0 w act rl hr
      rcases s2 σ _ _ _ 0 g4 g5 g6 with ⟨i, en, f1, f2, f3, f4⟩ | ⟨f1, _⟩
      · refine fin n (es.modify i fun e => { e with key := act.eval oi, val := act.eval oy }) cl σ B w0 w act o' rl hr ho (by simpa using g3) (by simpa using f4) ?_
        intro loc' es' cl' hl hh
        rw [g1] at hl; cases hl
        rw [g2] at hh; cases hh
        have hkey : (es[i]?.map (·.key)).getD (act.eval oi) = en.key := by
          have : es[i]? = some en := by simpa using f1
          simp [this]
        have hstay : (Instr.keyThatStays en.key (act.eval oi)).run P w = .ok (act.eval oi) w := by
          simp [Instr.keyThatStays, same_bits hq f3]
        have h2 : (Instr.findKey kt (act.eval oi) es.toList).run P w = .ok (some (0 + i, en.val)) w := by
          simp only [Instr.findKey, Sem.run_bind, run_und hd, Result.andThen_ok, f2, Sem.run_pure]
        rw [Nat.zero_add] at h2
        simp only [Instr.mapUpdate, Sem.run_bind, run_und ht, Result.andThen_ok, hget g2, checkKey_run hq hd, h2, hkey, hstay, hset _ g2]
      · obtain ⟨i, en, _, c1, _⟩ := m2 σ _ _ 0 g4 g5
        rw [f1] at c1; cases c1
    · rw [setOb_eq] at e7
      refine ⟨undefV, _, fun env' k' => by rw [hun, m1]; exact setOb_eq _ _ _ _, e7, fun σ B w0 w act rl hr o' ho => ?_⟩
      obtain ⟨loc, es, cl, g1, g2, g3, g4, g5, g6⟩ := base σ B w0 w act rl hr
      have c1 := m2 σ _ _ 0 g4 g5
      rcases s2 σ _ _ _ 0 g4 g5 g6 with ⟨i, en, f1, f2, f3, f4⟩ | ⟨f1, f2⟩
      · rw [c1] at f2; cases f2
      · refine fin (n + 1) (es.push ⟨act.eval oi, act.eval oy, cl⟩) (cl + 1) σ B w0 w act o' rl hr ho (by simp [g3]) (by simpa using f2 cl) ?_
        intro loc' es' cl' hl hh
        rw [g1] at hl; cases hl
        rw [g2] at hh; cases hh
        have h2 : (Instr.findKey kt (act.eval oi) es.toList).run P w = .ok none w := by
          simp only [Instr.findKey, Sem.run_bind, run_und hd, Result.andThen_ok, f1, Sem.run_pure]
        simp only [Instr.mapUpdate, Sem.run_bind, run_und ht, Result.andThen_ok, hget g2, checkKey_run hq hd, h2, hset _ g2]
end
end Go.Ab
namespace Go.Ab
open Go Go.RowKit
/-- the operation ends, and R holds of its value and the world behind it -/
def Goes (P : Program) (o : Oper) (act : Act) (w : World) (R : Value → World → Prop) : Prop :=
  ∀ (next : Act → World → Prop) (Q : Exit → Act → World → Prop), (∀ cv w', R cv w' → next (act.put o.dst cv) w') → o.wp P act w next Q
theorem Goes.mono {P o act w} {R R' : Value → World → Prop} (h : Goes P o act w R) (hr : ∀ cv w', R cv w' → R' cv w') : Goes P o act w R' :=
  fun next Q hn => h next Q fun cv w' r => hn cv w' (hr cv w' r)
/-- what an operation does, seen from the abstract side -/
def OpS (P : Program) (m : List (Option Nat)) (sl : List (Nat × Pa)) (op : Go.Op) (ρ : V) (tm : T V) (h : H) (v : V) (h' : H) : Prop :=
  ∀ σ B w0 w act, Rl σ m sl ρ tm act → HR σ B w0 h w → ∀ o : Oper, o.op = op → Goes P o act w fun cv w' => ∃ σ', Le σ σ' ∧ VR σ' v cv ∧ HR σ' B w0 h' w'
def AOK (P : Program) (m : List (Option Nat)) (sl : List (Nat × Pa)) (env : Env) (a : Ac) (op : Go.Op) : Prop :=
  ∀ ρ tm h k ans, a env ρ tm h k = some ans → ∃ v h', (∀ k', a env ρ tm h k' = k' v h') ∧ k v h' = some ans ∧ OpS P m sl op ρ tm h v h'
/-- it changes no heap -/
def AOK0 (P : Program) (m : List (Option Nat)) (sl : List (Nat × Pa)) (env : Env) (a : Ac) (op : Go.Op) : Prop :=
  ∀ ρ tm h k ans, a env ρ tm h k = some ans → ∃ v, (∀ k', a env ρ tm h k' = k' v h) ∧ k v h = some ans ∧ OpS P m sl op ρ tm h v h
/-- it looks at no heap -/
def AOKP (P : Program) (m : List (Option Nat)) (sl : List (Nat × Pa)) (env : Env) (a : Ac) (op : Go.Op) : Prop :=
  ∀ ρ tm h k ans, a env ρ tm h k = some ans → ∃ v, (∀ h' k', a env ρ tm h' k' = k' v h') ∧ k v h = some ans ∧ ∀ h', OpS P m sl op ρ tm h' v h'
theorem AOK0.a {P m sl env a op} (h : AOK0 P m sl env a op) : AOK P m sl env a op := fun ρ tm hp k ans e =>
  let ⟨v, h1, h2, h3⟩ := h ρ tm hp k ans e
  ⟨v, hp, h1, h2, h3⟩
theorem AOKP.a0 {P m sl env a op} (h : AOKP P m sl env a op) : AOK0 P m sl env a op := fun ρ tm hp k ans e =>
  let ⟨v, h1, h2, h3⟩ := h ρ tm hp k ans e
  ⟨v, h1 hp, h2, h3 hp⟩
theorem goes_of {P : Program} {o : Oper} {act : Act} {w w' : World} {nx : Next} {cv : Value} {R : Value → World → Prop} (h : (execOp act.eval o).run P w = .ok nx w') (hn : nx = .value cv ∨ (nx = .skip ∧ cv = undef)) (hr : R cv w') :
    Goes P o act w R := by
  intro next Q hx
  unfold Oper.wp
  rw [h]
  rcases hn with rfl | ⟨rfl, rfl⟩
  · exact hx _ _ hr
  · exact hx _ _ hr
section
variable {P : Program} {m : List (Option Nat)} {sl : List (Nat × Pa)}
theorem SOK.aok {a op} (h : SOK P m sl a op) (env : Env) : AOK P m sl env a op := fun ρ tm hp k ans e =>
  let ⟨v, h', h1, h2, h3⟩ := h env ρ tm hp k ans e
  ⟨v, h', fun k' => h1 env k', h2, fun σ B w0 w act r hr o ho =>
    let ⟨_, w', cv, σ', q1, q2, q3, q4, q5⟩ := h3 σ B w0 w act r hr o ho
    goes_of q1 q2 ⟨σ', q3, q4, q5⟩⟩
theorem ROK.aok {a op} (h : ROK P m sl a op) (env : Env) : AOK0 P m sl env a op := fun ρ tm hp k ans e =>
  let ⟨v, h1, h2, h3⟩ := h env ρ tm hp k ans e
  ⟨v, fun k' => h1 env k', h2, fun σ B w0 w act r hr o ho =>
    let ⟨cv, q1, q2⟩ := h3 σ B w0 w act r hr o ho
    goes_of q1 (.inl rfl) ⟨σ, .refl _, q2, hr⟩⟩
theorem POK.aok {a op} (h : POK P m sl a op) (env : Env) : AOKP P m sl env a op := fun ρ tm hp k ans e =>
  let ⟨v, h1, h2, h3⟩ := h env ρ tm hp k ans e
  ⟨v, fun h' k' => h1 env h' k', h2, fun h' σ B w0 w act r hr o ho =>
    let ⟨cv, q1, q2⟩ := h3 σ act r o ho
    goes_of (q1 w) (.inl rfl) ⟨σ, .refl _, q2, hr⟩⟩
/-! calls -/
def entOK (P : Program) (f : FuncId) : Prop := ∀ args w, (callFunc f args).run P w = .ok (.enter f args) w
/-- what is known of the functions -/
def EnvOK (P : Program) (env : Env) : Prop := ∀ f args h k ans, env f args h k = some ans → ∃ v h', (∀ k', env f args h k' = k' v h') ∧ k v h' = some ans ∧ entOK P f ∧
  ∀ σ B w0 w cargs, VL σ args cargs → HR σ B w0 h w → Calls P f cargs.toArray w fun e w' => ∃ cv σ', e = .returned cv ∧ Le σ σ' ∧ VR σ' v cv ∧ HR σ' B w0 h' w'
theorem a_call {env : Env} (he : EnvOK P env) {f : FuncId} {l : List Od} {os : Array Operand} {ts} (hl : OdsOK m sl l os.toList) : AOK P m sl env (aCall f l) (.call ⟨.value (.func f), os, ts⟩) := by
  intro ρ tm h k ans e
  obtain ⟨vs, v1, e1, v2⟩ := evs_inv hl e
  obtain ⟨v, h', c1, e2, hent, c2⟩ := he f vs h k ans e1
  refine ⟨v, h', fun k' => (v1 _).trans (c1 _), e2, fun σ B w0 w act r hr o ho next Q hn => ?_⟩
  have hc := c2 σ B w0 w _ (v2 σ act r) hr
  have harr : (os.toList.map act.eval).toArray = os.map act.eval := by rw [← Array.toList_map, Array.toArray_toList]
  rw [harr] at hc
  unfold Oper.wp
  have hrun : (execOp act.eval o).run P w = .ok (.enter f (os.map act.eval)) w := by
    obtain ⟨d, op', ty, pos, af, gd⟩ := o
    subst ho
    simp [execOp, resolve, Act.eval, Deferred.ofValue, invoke, hent _ w]
  rw [hrun]
  refine Calls.mono hc fun e w' he => ?_
  obtain ⟨cv, σ', rfl, h1, h2, h3⟩ := he
  exact hn cv w' ⟨σ', h1, h2, h3⟩
theorem fnK_inv {fn : Fn} {c : FuncId → R} {a} (h : fnK fn c = some a) : ∃ f, fn = .func f ∧ c f = some a := by cases fn <;> first | exact ⟨_, rfl, h⟩ | cases h
theorem a_callv {env : Env} (he : EnvOK P env) {g : Od} {og : Operand} {l : List Od} {os : Array Operand} {ts} (hg : OdOK m sl g og) (hl : OdsOK m sl l os.toList) : AOK P m sl env (aCallv g l) (.call ⟨.value og, os, ts⟩) := by
  intro ρ tm h k ans e
  obtain ⟨gv, g1, e1⟩ := hg.reg _ _ _ _ e
  obtain ⟨fn, a, c, rfl, e2⟩ := elF_inv e1
  obtain ⟨f, rfl, e3⟩ := fnK_inv e2
  obtain ⟨vs, v1, e4, v2⟩ := evs_inv hl e3
  obtain ⟨l1, a1, e5, a2⟩ := appV_inv e4
  obtain ⟨l2, b1, e6, b2⟩ := appV_inv e5
  obtain ⟨v, h', c1, e7, hent, c2⟩ := he f l2 h k ans e6
  refine ⟨v, h', fun k' => ?_, e7, fun σ B w0 w act r hr o ho next Q hn => ?_⟩
  · show g ρ tm _ = _
    rw [g1]
    show evs l ρ tm _ = _
    rw [v1, a1, b1]; exact c1 _
  · obtain ⟨a', c', hz, ha, hc'⟩ := VRf (hg.val _ _ _ _ _ r g1)
    have hc := c2 σ B w0 w _ (b2 σ _ _ ha (a2 σ _ _ (v2 σ act r) hc')) hr
    unfold Oper.wp
    have hrun : (execOp act.eval o).run P w = .ok (.enter f (a' ++ (os.toList.map act.eval ++ c')).toArray) w := by
      obtain ⟨d, op', ty, pos, af, gd⟩ := o
      subst ho
      have h1 : (a'.toArray ++ os.map act.eval) ++ c'.toArray = (a' ++ (os.toList.map act.eval ++ c')).toArray := by
        apply Array.ext'
        simp
      simp only [execOp, resolve, hz, Deferred.ofValue, invoke, Sem.run_bind, Sem.run_pure, Result.andThen_ok]
      rw [h1]; exact hent _ w
    rw [hrun]
    refine Calls.mono hc fun e w' he => ?_
    obtain ⟨cv, σ', rfl, h1, h2, h3⟩ := he
    exact hn cv w' ⟨σ', h1, h2, h3⟩
end
end Go.Ab
namespace Go.Ab
open Go Go.RowKit
/-! how many of the writers are done -/
def cntN (wr L : Nat → Bool) : Nat → Nat
  | 0 => 0
  | n + 1 => cntN wr L n + (if wr n && L n then 1 else 0)
def wc (wr : Nat → Bool) (n : Nat) : Nat := cntN wr (fun _ => true) n
section
variable {wr L : Nat → Bool}
theorem cntN_le {a b : Nat} (h : a ≤ b) : cntN wr L a ≤ cntN wr L b := by
  induction h with
  | refl => exact Nat.le_refl _
  | step _ ih => exact Nat.le_trans ih (Nat.le_add_right _ _)
theorem cntN_wc (n : Nat) : cntN wr L n ≤ wc wr n := by
  induction n with
  | zero => exact Nat.le_refl _
  | succ n ih =>
    unfold wc at ih ⊢
    simp only [cntN]
    have : (if (wr n && L n) = true then 1 else 0) ≤ (if (wr n && true) = true then 1 else 0) := by
      cases wr n <;> cases L n <;> simp
    omega
theorem cntN_all {n : Nat} (h : ∀ j, j < n → wr j = true → L j = true) : cntN wr L n = wc wr n := by
  induction n with
  | zero => rfl
  | succ n ih =>
    unfold wc at ih ⊢
    simp only [cntN]
    rw [ih (fun j hj => h j (by omega))]
    congr 1
    cases hw : wr n with
    | false => rfl
    | true => rw [h n (by omega) hw]
theorem cntN_none {a b : Nat} (hab : a ≤ b) (h : ∀ j, a ≤ j → j < b → wr j = true → L j = false) : cntN wr L b = cntN wr L a := by
  induction hab with
  | refl => rfl
  | @step m hm ih =>
    have hm' : a ≤ m := hm
    simp only [cntN]
    rw [ih (fun j h1 h2 => h j h1 (by omega))]
    cases hw : wr m with
    | false => rfl
    | true => rw [h m hm' (by omega) hw]; rfl
theorem cntN_add {n i : Nat} (hi : i < n) (hL : L i = false) : cntN wr (fun j => L j || j == i) n = cntN wr L n + (if wr i then 1 else 0) := by
  have key : ∀ m, (m ≤ i → cntN wr (fun j => L j || j == i) m = cntN wr L m) ∧ (i < m → cntN wr (fun j => L j || j == i) m = cntN wr L m + (if wr i then 1 else 0)) := by
    intro m
    induction m with
    | zero => exact ⟨fun _ => rfl, fun h => by omega⟩
    | succ m ih =>
      refine ⟨fun h => ?_, fun h => ?_⟩
      · simp only [cntN]
        rw [ih.1 (by omega)]
        have : (m == i) = false := by simp; omega
        simp only [this, Bool.or_false]
      · simp only [cntN]
        by_cases hmi : m = i
        · subst hmi
          rw [ih.1 (Nat.le_refl _)]
          simp [hL]
        · rw [ih.2 (by omega)]
          have : (m == i) = false := by simp; exact hmi
          simp only [this, Bool.or_false]; omega
  exact (key n).2 hi
end
/-! the operations of a region, in whatever order that is allowed -/
def dstOf (ops : Array Oper) (j : Nat) : Option Tmp := (ops[j]?).bind (·.dst)
/-- what the text says -/
structure Ord (ops : Array Oper) (bf : Nat → Nat → Bool) (wr : Nat → Bool) (names : Nat → List Tmp) : Prop where
  lt : ∀ i j, bf i j = true → j < i
  tot : ∀ i j, i < ops.size → j < i → wr i = true → wr j = true → bf i j = true
  named : ∀ i j t, i < ops.size → j < ops.size → j ≠ i → dstOf ops j = some t → (t ∈ names i ∨ dstOf ops i = some t) → bf i j = true ∨ bf j i = true
/-- when i can be done -/
def phase (ops : Array Oper) (bf : Nat → Nat → Bool) (wr : Nat → Bool) (i k : Nat) : Prop :=
  (wr i = true → k = wc wr i) ∧ k ≤ wc wr ops.size ∧ (wr i = false → ∀ j, j < ops.size → wr j = true → (wc wr j < k → bf j i = false) ∧ (k ≤ wc wr j → bf i j = false))
section
variable {P : Program} {ops : Array Oper} {bf : Nat → Nat → Bool} {wr : Nat → Bool} {names : Nat → List Tmp} {v : Nat → V} {run : Nat → Bool} {hk : Nat → H} {act0 : Act} {σ0 : Sg} {B : Fr} {w0 : World}
def Named (ops : Array Oper) (bf : Nat → Nat → Bool) (names : Nat → List Tmp) (v : Nat → V) (act0 : Act) (σ : Sg) (act : Act) (i : Nat) : Prop :=
  ∀ t ∈ names i, (∃ j, bf i j = true ∧ dstOf ops j = some t ∧ (∀ j', bf i j' = true → dstOf ops j' = some t → j' ≤ j) ∧ VR σ (v j) (act.tmps.getD t undef)) ∨
    ((∀ j, j < ops.size → dstOf ops j = some t → j ≠ i → bf j i = true) ∧ act.tmps.getD t undef = act0.tmps.getD t undef)
/-- what the run says -/
structure Dyn (P : Program) (ops : Array Oper) (bf : Nat → Nat → Bool) (wr : Nat → Bool) (names : Nat → List Tmp) (v : Nat → V) (run : Nat → Bool) (hk : Nat → H) (act0 : Act) (σ0 : Sg) (B : Fr) (w0 : World) : Prop where
  op : ∀ i o, ops[i]? = some o → run i = true → ∀ k, phase ops bf wr i k → ∀ σ w act, Le σ0 σ → Named ops bf names v act0 σ act i → HR σ B w0 (hk k) w →
    Goes P o act w fun cv w' => ∃ σ', Le σ σ' ∧ VR σ' (v i) cv ∧ HR σ' B w0 (hk (if wr i then k + 1 else k)) w'
  no : ∀ i, i < ops.size → run i = false → v i = undefV ∧ (wr i = true → hk (wc wr i + 1) = hk (wc wr i))
  guard : ∀ i o, ops[i]? = some o → ∀ σ act, Le σ0 σ → Named ops bf names v act0 σ act i → Region.wanted o (yielded ops act.tmps) = run i
  dst : ∀ i t, dstOf ops i = some t → t < act0.tmps.size
/-- what is done, and what is then -/
structure Inv (ops : Array Oper) (wr : Nat → Bool) (v : Nat → V) (hk : Nat → H) (act0 : Act) (σ0 : Sg) (B : Fr) (w0 : World) (L : Nat → Bool) (act : Act) (w : World) (σ : Sg) : Prop where
  le : Le σ0 σ
  hr : HR σ B w0 (hk (cntN wr L ops.size)) w
  df : act.defers = []
  sz : act.tmps.size = act0.tmps.size
  tm : ∀ t, (∃ j, j < ops.size ∧ L j = true ∧ dstOf ops j = some t ∧ (∀ j', L j' = true → dstOf ops j' = some t → j' ≤ j) ∧ VR σ (v j) (act.tmps.getD t undef)) ∨
    ((∀ j, L j = true → dstOf ops j ≠ some t) ∧ act.tmps.getD t undef = act0.tmps.getD t undef)
theorem put_same {act : Act} {t : Tmp} {x : Value} (h : t < act.tmps.size) : (act.put (some t) x).tmps.getD t undef = x := by
  simp [Act.put, h]
theorem put_other {act : Act} {d : Option Tmp} {t : Tmp} {x : Value} (h : d ≠ some t) : (act.put d x).tmps.getD t undef = act.tmps.getD t undef := by
  cases d with
  | none => rfl
  | some u =>
    have : u ≠ t := fun e => h (e ▸ rfl)
    simp [Act.put, Array.getElem?_setIfInBounds_ne this]
theorem put_size {act : Act} {d : Option Tmp} {x : Value} : (act.put d x).tmps.size = act.tmps.size := by cases d <;> simp [Act.put]
theorem put_defers' {act : Act} {d : Option Tmp} {x : Value} : (act.put d x).defers = act.defers := by cases d <;> rfl
theorem dstOf_lt {j : Nat} {t : Tmp} (h : dstOf ops j = some t) : j < ops.size := by
  unfold dstOf at h
  rcases Nat.lt_or_ge j ops.size with h' | h'
  · exact h'
  · simp [Array.getElem?_eq_none h'] at h
theorem getD_out {listed : Array Bool} {j : Nat} (h : listed.size ≤ j) : listed.getD j false = false := by
  rw [Array.getD_eq_getD_getElem?, Array.getElem?_eq_none h]; rfl
/-- one more is done -/
theorem inv_put (hO : Ord ops bf wr names) {L : Nat → Bool} {act : Act} {w w' : World} {σ σ' : Sg} (I : Inv ops wr v hk act0 σ0 B w0 L act w σ) (hdst : ∀ i t, dstOf ops i = some t → t < act0.tmps.size) {i : Nat} (hi : i < ops.size) (hn : L i = false)
    (hcl : ∀ a b, L a = true → bf a b = true → L b = true) (hbf : ∀ j, bf i j = true → L j = true)
    (hle : Le σ σ') {cv : Value} (hv : VR σ' (v i) cv) (hr : HR σ' B w0 (hk (cntN wr (fun j => L j || j == i) ops.size)) w') :
    Inv ops wr v hk act0 σ0 B w0 (fun j => L j || j == i) (act.put (dstOf ops i) cv) w' σ' := by
  refine ⟨I.le.trans hle, hr, by rw [put_defers']; exact I.df, by rw [put_size]; exact I.sz, fun t => ?_⟩
  by_cases hd : dstOf ops i = some t
  · refine .inl ⟨i, hi, by simp, hd, fun j' hj hd' => ?_, ?_⟩
    · simp only [Bool.or_eq_true, beq_iff_eq] at hj
      rcases hj with hj | hj
      · have hne : j' ≠ i := fun e => by rw [e, hn] at hj; cases hj
        rcases hO.named i j' t hi (dstOf_lt hd') hne hd' (.inr hd) with h1 | h1
        · exact Nat.le_of_lt (hO.lt _ _ h1)
        · have := hcl j' i hj h1
          rw [hn] at this; cases this
      · omega
    · rw [hd, put_same (by rw [I.sz]; exact hdst i t hd)]
      exact hv
  · rw [put_other hd]
    rcases I.tm t with ⟨j, h1, h2, h3, h4, h5⟩ | ⟨h1, h2⟩
    · refine .inl ⟨j, h1, by simp [h2], h3, fun j' hj hd' => ?_, h5.mono hle⟩
      simp only [Bool.or_eq_true, beq_iff_eq] at hj
      rcases hj with hj | hj
      · exact h4 j' hj hd'
      · subst hj; exact absurd hd' hd
    · refine .inr ⟨fun j hj => ?_, h2⟩
      simp only [Bool.or_eq_true, beq_iff_eq] at hj
      rcases hj with hj | hj
      · exact h1 j hj
      · subst hj; exact hd
theorem inv_step {Q : Exit → Act → World → Prop} (hO : Ord ops bf wr names) (hD : Dyn P ops bf wr names v run hk act0 σ0 B w0) {L : Nat → Bool} {act : Act} {w : World} {σ : Sg} (I : Inv ops wr v hk act0 σ0 B w0 L act w σ)
    {i : Nat} (hi : i < ops.size) (hn : L i = false) (hcl : ∀ a b, L a = true → bf a b = true → L b = true) (hbf : ∀ j, bf i j = true → L j = true)
    {K : Act → World → Prop} (hK : ∀ act' w' σ', Inv ops wr v hk act0 σ0 B w0 (fun j => L j || j == i) act' w' σ' → K act' w') : wpOp P ops Q i K act w := by
  have ho : ops[i]? = some ops[i] := Array.getElem?_eq_getElem hi
  have hdo : dstOf ops i = ops[i].dst := by simp [dstOf, ho]
  -- the writers that are done
  have dn : ∀ a b, a < ops.size → wr a = true → wr b = true → L a = true → b < a → L b = true := fun a b ha h1 h2 h3 h4 => hcl a b h3 (hO.tot a b ha h4 h1 h2)
  have c1 : ∀ j, j < ops.size → wr j = true → L j = true → wc wr j < cntN wr L ops.size := fun j hj h1 h2 => by
    have e : cntN wr L j = wc wr j := cntN_all fun b hb hwb => dn j b hj h1 hwb h2 hb
    have : cntN wr L (j + 1) = cntN wr L j + 1 := by simp [cntN, h1, h2]
    have := cntN_le (wr := wr) (L := L) (show j + 1 ≤ ops.size by omega)
    omega
  have c2 : ∀ j, j < ops.size → wr j = true → L j = false → cntN wr L ops.size ≤ wc wr j := fun j hj h1 h2 => by
    have e : cntN wr L ops.size = cntN wr L j := cntN_none (by omega) fun b h3 h4 h5 => by
      cases hb : L b with
      | false => rfl
      | true =>
        have hne : b ≠ j := fun e => by rw [e, h2] at hb; cases hb
        have := dn b j h4 h5 h1 hb (by omega)
        rw [h2] at this; cases this
    rw [e]; exact cntN_wc j
  have hph : phase ops bf wr i (cntN wr L ops.size) := by
    refine ⟨fun hw => ?_, cntN_wc _, fun _ j hj hwj => ⟨fun hlt => ?_, fun hle => ?_⟩⟩
    · have h1 := c2 i hi hw hn
      have h2 : wc wr i ≤ cntN wr L ops.size := by
        have e : cntN wr L i = wc wr i := cntN_all fun b hb hwb => hbf b (hO.tot i b hi hb hw hwb)
        rw [← e]; exact cntN_le (by omega)
      omega
    · cases hb : bf j i with
      | false => rfl
      | true =>
        cases hl : L j with
        | false => have := c2 j hj hwj hl; omega
        | true => have := hcl j i hl hb; rw [hn] at this; cases this
    · cases hb : bf i j with
      | false => rfl
      | true => have := c1 j hj hwj (hbf j hb); omega
  have hnm : Named ops bf names v act0 σ act i := by
    intro t ht
    rcases I.tm t with ⟨j, h1, h2, h3, h4, h5⟩ | ⟨h1, h2⟩
    · have hji : j ≠ i := fun e => by rw [e, hn] at h2; cases h2
      have hb : bf i j = true := by
        rcases hO.named i j t hi h1 hji h3 (.inl ht) with hb | hb
        · exact hb
        · have := hcl j i h2 hb
          rw [hn] at this; cases this
      exact .inl ⟨j, hb, h3, fun j' hj' hd' => h4 j' (hbf j' hj') hd', h5⟩
    · refine .inr ⟨fun j hj hd hne => ?_, h2⟩
      rcases hO.named i j t hi hj hne hd (.inl ht) with hb | hb
      · exact absurd hd (h1 j (hbf j hb))
      · exact hb
  have hcnt := cntN_add (wr := wr) hi hn
  unfold wpOp
  rw [ho]
  show if Region.wanted ops[i] (yielded ops act.tmps) = true then _ else _
  rw [hD.guard i _ ho σ act I.le hnm]
  cases hrun : run i with
  | true =>
    rw [if_pos rfl]
    refine .inl (hD.op i _ ho hrun _ hph σ w act I.le hnm I.hr K Q fun cv w' ⟨σ', h1, h2, h3⟩ => ?_)
    rw [← hdo]
    refine hK _ _ σ' (inv_put hO I hD.dst hi hn hcl hbf h1 h2 ?_)
    rw [hcnt]
    cases hw : wr i <;> simpa [hw] using h3
  | false =>
    rw [if_neg (by simp)]
    obtain ⟨h1, h2⟩ := hD.no i hi hrun
    rw [← hdo]
    refine hK _ _ σ (inv_put hO I hD.dst hi hn hcl hbf (.refl _) (by rw [h1]; exact .undef _) ?_)
    rw [hcnt]
    cases hw : wr i with
    | false => simpa using I.hr
    | true =>
      have e := hph.1 hw
      have h3 := I.hr
      rw [e] at h3 ⊢
      simp only [if_true]
      rw [h2 hw]; exact h3
/-- in the order of the text -/
theorem inv_list {Q : Exit → Act → World → Prop} (hO : Ord ops bf wr names) (hD : Dyn P ops bf wr names v run hk act0 σ0 B w0) (hbl : ∀ i j, bf i j = true ↔ j < i) :
    ∀ (m k : Nat), k + m = ops.size → ∀ act w σ, Inv ops wr v hk act0 σ0 B w0 (fun j => decide (j < k)) act w σ → (∀ act w σ, Inv ops wr v hk act0 σ0 B w0 (fun j => decide (j < ops.size)) act w σ → Q .normal act w) →
      wpOps P ops Q (List.range' k m) act w
  | 0, k, hk', act, w, σ, I, hQ => by
    have : k = ops.size := by omega
    subst this
    exact hQ act w σ I
  | m + 1, k, hk', act, w, σ, I, hQ => by
    rw [List.range'_succ, wpOps_cons]
    refine inv_step hO hD I (i := k) (by omega) (by simp) (fun a b ha hb => ?_) (fun j hj => by simpa using (hbl k j).1 hj) fun act' w' σ' I' => ?_
    · simp only [decide_eq_true_eq] at ha ⊢
      have := (hbl a b).1 hb
      omega
    · refine inv_list hO hD hbl m (k + 1) (by omega) act' w' σ' ?_ hQ
      have e : (fun j => decide (j < k) || j == k) = fun j => decide (j < k + 1) := by
        funext j
        rw [Bool.eq_iff_iff]
        simp only [Bool.or_eq_true, decide_eq_true_eq, beq_iff_eq]; omega
      rwa [e] at I'
/-- in any order -/
theorem inv_any {Q : Exit → Act → World → Prop} (hO : Ord ops bf wr names) (hD : Dyn P ops bf wr names v run hk act0 σ0 B w0)
    (hE : ∀ i o, ops[i]? = some o → ∀ e ∈ o.after, Region.binds .any e = true → e.on < i)
    (hM : ∀ L : Nat → Bool, (∀ a oa, ops[a]? = some oa → L a = true → ∀ e ∈ oa.after, Region.binds .any e = true → L e.on = true) → ∀ i o, ops[i]? = some o → (∀ e ∈ o.after, Region.binds .any e = true → L e.on = true) → ∀ j, bf i j = true → L j = true)
    (hQ : ∀ act w σ, Inv ops wr v hk act0 σ0 B w0 (fun j => decide (j < ops.size)) act w σ → Q .normal act w) :
    ∀ (fuel : Nat) (listed : Array Bool) act w σ, listed.size = ops.size → ops.size ≤ fuel + cntN (fun _ => true) (fun j => listed.getD j false) ops.size →
      (∀ a oa, ops[a]? = some oa → listed.getD a false = true → ∀ e ∈ oa.after, Region.binds .any e = true → listed.getD e.on false = true) →
      Inv ops wr v hk act0 σ0 B w0 (fun j => listed.getD j false) act w σ → wpAny P .any ops Q fuel listed act w := by
  have fin : ∀ (listed : Array Bool) act w σ, listed.size = ops.size → Inv ops wr v hk act0 σ0 B w0 (fun j => listed.getD j false) act w σ → Region.ready .any ops listed = [] → Q .normal act w := by
    intro listed act w σ hsz I hr
    have all : ∀ n, n ≤ ops.size → ∀ j, j < n → listed.getD j false = true := by
      intro n
      induction n with
      | zero => intro _ j hj; omega
      | succ n ih =>
        intro hn j hj
        by_cases hjn : j < n
        · exact ih (by omega) j hjn
        · have hj' : j = n := by omega
          subst hj'
          cases hl : listed.getD j false with
          | true => rfl
          | false =>
            have : j ∈ Region.ready .any ops listed := by
              rw [mem_ready]
              refine ⟨?_, ops[j]'(by omega), Array.getElem?_eq_getElem (by omega), fun e he hb => ih (by omega) _ (hE j _ (Array.getElem?_eq_getElem (by omega)) e he hb)⟩
              have hjs : j < listed.size := by omega
              simpa [hjs] using hl
            rw [hr] at this; cases this
    refine hQ act w σ ?_
    have e : (fun j => listed.getD j false) = fun j => decide (j < ops.size) := by
      funext j
      by_cases hj : j < ops.size
      · rw [all _ (Nat.le_refl _) j hj]; simp [hj]
      · rw [getD_out (by omega)]; simp [hj]
    rwa [e] at I
  intro fuel
  induction fuel with
  | zero =>
    intro listed act w σ hsz hf hcl I
    have hr : Region.ready .any ops listed = [] := by
      cases h : Region.ready .any ops listed with
      | nil => rfl
      | cons x xs =>
        have hx : x ∈ Region.ready .any ops listed := by rw [h]; exact List.mem_cons_self
        obtain ⟨h0, o, ho, _⟩ := mem_ready.1 hx
        have hxs : x < ops.size := (Array.getElem?_eq_some_iff.1 ho).1
        have hL : (fun j => listed.getD j false) x = false := by
          have : x < listed.size := by omega
          simpa [this] using h0
        have h1 := cntN_add (wr := fun _ => true) (L := fun j => listed.getD j false) hxs hL
        have h2 := cntN_wc (wr := fun _ => true) (L := fun j => listed.getD j false || j == x) ops.size
        have h3 : wc (fun _ => true) ops.size = ops.size := by
          generalize ops.size = n
          unfold wc
          induction n with
          | zero => rfl
          | succ n ih => simp [cntN, ih]
        simp only [if_true] at h1
        omega
    exact ⟨hr, fin listed act w σ hsz I hr⟩
  | succ fuel ih =>
    intro listed act w σ hsz hf hcl I
    refine ⟨fin listed act w σ hsz I, fun i hi => ?_⟩
    obtain ⟨h0, o, ho, hall⟩ := mem_ready.1 hi
    have his : i < ops.size := (Array.getElem?_eq_some_iff.1 ho).1
    have hL : (fun j => listed.getD j false) i = false := by
      have : i < listed.size := by omega
      simpa [this] using h0
    have hset : (fun j => (listed.setIfInBounds i true).getD j false) = fun j => listed.getD j false || j == i := by
      funext j
      by_cases hij : j = i
      · subst hij
        have : j < listed.size := by omega
        simp [this]
      · have : i ≠ j := fun e => hij e.symm
        rw [getD_set_ne false this]
        simp [hij]
    refine inv_step hO hD I his hL (fun a b ha hb => ?_) (hM _ hcl i o ho hall) fun act' w' σ' I' => ?_
    · have hal : a < ops.size := by
        rcases Nat.lt_or_ge a ops.size with h | h
        · exact h
        · have : listed.getD a false = false := getD_out (by omega)
          rw [this] at ha; cases ha
      exact hM _ hcl a _ (Array.getElem?_eq_getElem hal) (hcl a _ (Array.getElem?_eq_getElem hal) ha) b hb
    · have hle : ∀ j, listed.getD j false = true → (listed.setIfInBounds i true).getD j false = true := fun j hj => getD_set_true hj
      refine ih (listed.setIfInBounds i true) act' w' σ' (by simpa using hsz) ?_ (fun a oa hoa ha e he hb => ?_) (by rw [hset]; exact I')
      · rw [hset, cntN_add his hL]; simp only [if_true]; omega
      · have ha' : (fun j => (listed.setIfInBounds i true).getD j false) a = true := ha
        rw [hset] at ha'
        simp only [Bool.or_eq_true, beq_iff_eq] at ha'
        rcases ha' with ha' | ha'
        · exact hle _ (hcl a oa hoa ha' e he hb)
        · subst ha'
          rw [ho] at hoa; cases hoa
          exact hle _ (hall e he hb)
end
end Go.Ab
namespace Go.Ab
open Go Go.RowKit
noncomputable section
/-- an operation of a region: whether it may change the heap; its guard (how many results ago, what is wanted); the slot of its result -/
structure Dsc where
  w : Bool
  g : Option (Nat × Bool)
  d : Option Pa
  a : Ac
def putK (d : Option Pa) (v : V) (tm : T V) (c : T V → R) : R := Option.rec (c tm) (fun p => setK undefV p v tm c) d
abbrev Nd := V → T V → H → List H → R
def guardK (g : Option (Nat × Bool)) (ρ : V) (go no : R) : R := Option.rec go (fun jx => Prod.rec (fun j x => nthK j ρ fun gv => Bool.rec no go (askG gv x)) jx) g
/-- an operation with a guard; what comes behind it is said once -/
def gOp (v : V) (x : Bool) (A : K → R) (h : H) (k : K) : R := Bool.rec (k undefV h) (A k) (askG v x)
def gK (g : Option (Nat × Bool)) (ρ : V) (A : K → R) (h : H) (k : K) : R := Option.rec (A k) (fun jx => Prod.rec (fun j x => nthK j ρ fun gv => gOp gv x A h k) jx) g
def gCk (v : V) (x : Bool) (f : R → R) (r : R) : R := Bool.rec r (f r) (askG v x)
def gR (g : Option (Nat × Bool)) (ρ : V) (f : R → R) (r : R) : R := Option.rec (f r) (fun jx => Prod.rec (fun j x => nthK j ρ fun gv => gCk gv x f r) jx) g
def runD (l : List Dsc) : Env → V → T V → H → List H → Nd → R :=
  List.rec (motive := fun _ => Env → V → T V → H → List H → Nd → R) (fun _ ρ tm h hs nx => nx ρ tm h hs)
    (fun D _ ih env ρ tm h hs nx => Dsc.rec (fun w g d a =>
      gK g ρ (a env ρ tm h) h fun v h' => putK d v tm fun tm => ih env (.c v ρ) tm h' (Bool.rec hs (h :: hs) w) nx) D) l
def nthH (k : Nat) : List H → (H → R) → R := Nat.rec (motive := fun _ => List H → (H → R) → R) (fun l c => List.rec none (fun h _ _ => c h) l) (fun _ ih l c => List.rec none (fun _ r _ => ih r c) l) k
/-- alike -/
def veqK (x : V) : V → R → R := V.rec (motive := fun _ => V → R → R)
  (fun b y k => elB y fun c => Bool.rec none k (Bool.rec (not c) c b))
  (fun kd n y k => elI y fun kd' n' => Bool.rec none (Bool.rec none k (eqInt n n')) (kdEq kd kd'))
  (fun n l y k => elS y fun n' l' => Bool.rec none k (sEq n l n' l'))
  (fun b o y k => elP y fun b' o' => Bool.rec none (Bool.rec none k (paEq b b')) (Nat.beq o o'))
  (fun b o n c e x y k => elL y none fun b' o' n' c' e' x' => Bool.rec none (Bool.rec none (Bool.rec none (Bool.rec none (Bool.rec none (Bool.rec none k (paEq b b')) (Nat.beq o o')) (Nat.beq n n')) (Nat.beq c c')) (Nat.beq e e')) (Bool.rec (not x') x' x))
  (fun q y k => elZ y (fun q' => Bool.rec none k (Nat.beq q q')) none)
  (fun r y k => elM y none fun r' => Bool.rec none k (paEq r r'))
  (fun _ _ _ _ _ _ _ => none) (fun _ _ _ _ _ => none)
  (fun n _ ih y k => elAg y fun n' l' => Bool.rec none (ih l' k) (Nat.beq n n'))
  (fun _ ih y k => elTu y fun l' => ih l' k)
  (fun _ _ ih1 ih2 y k => elC y none fun v' l' => ih1 v' (ih2 l' k)) x
structure Ck where
  j : Nat
  g : Option (Nat × Bool)
  a : Ac
  ks : List Nat
def runKs (a : Ac) (env : Env) (ρ : V) (tm : T V) (hs : List H) (v : V) (ks : List Nat) (c : R) : R :=
  List.rec (motive := fun _ => R) c (fun k _ ih => nthH k hs fun h => a env ρ tm h fun v' _ => veqK v' v ih) ks
def runCk (l : List Ck) (env : Env) (ρ : V) (tm : T V) (hs : List H) (c : R) : R :=
  List.rec (motive := fun _ => R) c (fun K _ ih => Ck.rec (fun j g a ks => nthK j ρ fun v => gR g ρ (runKs a env ρ tm hs v ks) ih) K) l
def cRegD (l : List Dsc) : Cd := fun _ env nx _ _ tm h => runD l env .e tm h [] fun _ tm h _ => nx tm h
def cDraw (l : List Dsc) (cks : List Ck) : Cd := fun _ env nx _ _ tm h => runD l env .e tm h [] fun ρ tm h hs => runCk cks env ρ tm (h :: hs) (nx tm h)
end
/-! laws -/
noncomputable def putP (d : Option Pa) (v : V) (tm : T V) : T V := match d with | none => tm | some p => st undefV p v tm
theorem putK_eq (d : Option Pa) (v : V) (tm : T V) (c : T V → R) : putK d v tm c = c (putP d v tm) := by
  cases d with
  | none => rfl
  | some p => exact setK_eq _ _ _ _ _
def GuardR (g : Option (Nat × Bool)) (ρ : V) (run : Bool) : Prop := match g with
  | none => run = true
  | some (j, x) => ∃ gv, (∀ c, nthK j ρ c = c gv) ∧ run = askG gv x
theorem guardK_inv {g : Option (Nat × Bool)} {ρ : V} {go no : R} {a} (h : guardK g ρ go no = some a) : ∃ run, GuardR g ρ run ∧ (∀ go' no', guardK g ρ go' no' = if run = true then go' else no') ∧ (if run = true then go else no) = some a := by
  cases g with
  | none => exact ⟨true, rfl, fun _ _ => rfl, h⟩
  | some jx =>
    obtain ⟨j, x⟩ := jx
    obtain ⟨gv, h1, h2, _⟩ := nthK_inv (k := j) (l := ρ) h
    refine ⟨askG gv x, ⟨gv, h1, rfl⟩, fun go' no' => ?_, ?_⟩
    · show nthK j ρ _ = _
      rw [h1]
      cases askG gv x <;> rfl
    · revert h2
      cases askG gv x <;> exact fun h => h
theorem guardK_of {g : Option (Nat × Bool)} {ρ : V} {run : Bool} (h : GuardR g ρ run) (go no : R) : guardK g ρ go no = if run = true then go else no := by
  cases g with
  | none => rw [show run = true from h]; rfl
  | some jx =>
    obtain ⟨j, x⟩ := jx
    obtain ⟨gv, h1, rfl⟩ := h
    show nthK j ρ _ = _
    rw [h1]
    cases askG gv x <;> rfl
structure Rc where
  ρ : V
  tm : T V
  h : H
  v : V
  h' : H
  run : Bool
inductive Tr (env : Env) : List Dsc → V → T V → H → List H → List Rc → V → T V → H → List H → Prop
  | nil (ρ tm h hs) : Tr env [] ρ tm h hs [] ρ tm h hs
  | cons (d : Dsc) (l : List Dsc) (rc : Rc) (hs rs ρ' tm' h' hs') : GuardR d.g rc.ρ rc.run → (rc.run = true → ∀ k', d.a env rc.ρ rc.tm rc.h k' = k' rc.v rc.h') → (rc.run = false → rc.v = undefV ∧ rc.h' = rc.h) →
      Tr env l (.c rc.v rc.ρ) (putP d.d rc.v rc.tm) rc.h' (if d.w = true then rc.h :: hs else hs) rs ρ' tm' h' hs' → Tr env (d :: l) rc.ρ rc.tm rc.h hs (rc :: rs) ρ' tm' h' hs'
def Reg (env : Env) (a : Ac) : Prop := ∀ ρ tm h k ans, a env ρ tm h k = some ans → ∃ v h', (∀ k', a env ρ tm h k' = k' v h') ∧ k v h' = some ans
def Reg0 (env : Env) (a : Ac) : Prop := ∀ ρ tm h k ans, a env ρ tm h k = some ans → ∃ v, (∀ k', a env ρ tm h k' = k' v h) ∧ k v h = some ans
theorem AOK.reg {P m sl env a op} (h : AOK P m sl env a op) : Reg env a := fun ρ tm hp k ans e => let ⟨v, h', h1, h2, _⟩ := h ρ tm hp k ans e; ⟨v, h', h1, h2⟩
theorem AOK0.reg {P m sl env a op} (h : AOK0 P m sl env a op) : Reg0 env a := fun ρ tm hp k ans e => let ⟨v, h1, h2, _⟩ := h ρ tm hp k ans e; ⟨v, h1, h2⟩
theorem ac_det {env : Env} {a : Ac} {ρ tm h v h1 v' h1'} (e : ∀ k', a env ρ tm h k' = k' v h1) (e' : ∀ k', a env ρ tm h k' = k' v' h1') : v = v' ∧ h1 = h1' := by
  have := (e fun v h => some (v, h)).symm.trans (e' fun v h => some (v, h))
  simpa using this
theorem AOK.at {P m sl env a op} (H : AOK P m sl env a op) {ρ tm h v h'} (e : ∀ k', a env ρ tm h k' = k' v h') : OpS P m sl op ρ tm h v h' := by
  obtain ⟨v2, h2, e2, _, s⟩ := H ρ tm h (fun v h => some (v, h)) (v, h') (e _)
  obtain ⟨rfl, rfl⟩ := ac_det e e2
  exact s
theorem AOK0.at {P m sl env a op} (H : AOK0 P m sl env a op) {ρ tm h v h'} (e : ∀ k', a env ρ tm h k' = k' v h') : OpS P m sl op ρ tm h v h ∧ h' = h := by
  obtain ⟨v2, e2, _, s⟩ := H ρ tm h (fun v h => some (v, h)) (v, h') (e _)
  obtain ⟨rfl, rfl⟩ := ac_det e e2
  exact ⟨s, rfl⟩
theorem AOKP.at {P m sl env a op} (H : AOKP P m sl env a op) {ρ tm h v h'} (e : ∀ k', a env ρ tm h k' = k' v h') : (∀ h2, OpS P m sl op ρ tm h2 v h2) ∧ h' = h := by
  obtain ⟨v2, e2, _, s⟩ := H ρ tm h (fun v h => some (v, h)) (v, h') (e _)
  obtain ⟨rfl, rfl⟩ := ac_det e (e2 h)
  exact ⟨s, rfl⟩
theorem tr_of_run {env : Env} : ∀ {l : List Dsc}, (∀ d ∈ l, Reg env d.a) → ∀ {ρ tm h hs nx ans}, runD l env ρ tm h hs nx = some ans → ∃ rs ρ' tm' h' hs', Tr env l ρ tm h hs rs ρ' tm' h' hs' ∧ nx ρ' tm' h' hs' = some ans
  | [], _, ρ, tm, h, hs, nx, ans, e => ⟨[], ρ, tm, h, hs, .nil _ _ _ _, e⟩
  | ⟨w, g, d, a⟩ :: l, hr, ρ, tm, h, hs, nx, ans, e => by
    have e1 : guardK g ρ (a env ρ tm h fun v h' => putK d v tm fun tm => runD l env (.c v ρ) tm h' (Bool.rec hs (h :: hs) w) nx) (putK d undefV tm fun tm => runD l env (.c undefV ρ) tm h (Bool.rec hs (h :: hs) w) nx) = some ans := e
    have hw : (Bool.rec hs (h :: hs) w : List H) = if w = true then h :: hs else hs := by cases w <;> rfl
    rw [hw] at e1
    obtain ⟨run, g1, _, e2⟩ := guardK_inv e1
    cases run with
    | true =>
      rw [if_pos rfl] at e2
      obtain ⟨v, h', a1, e3⟩ := hr ⟨w, g, d, a⟩ (by simp) _ _ _ _ _ e2
      rw [putK_eq] at e3
      obtain ⟨rs, ρ', tm', h2, hs', t, e4⟩ := tr_of_run (fun d hd => hr d (by simp [hd])) e3
      exact ⟨⟨ρ, tm, h, v, h', true⟩ :: rs, ρ', tm', h2, hs', .cons ⟨w, g, d, a⟩ l ⟨ρ, tm, h, v, h', true⟩ hs rs _ _ _ _ g1 (fun _ => a1) (fun x => by cases x) t, e4⟩
    | false =>
      rw [if_neg (by simp), putK_eq] at e2
      obtain ⟨rs, ρ', tm', h2, hs', t, e4⟩ := tr_of_run (fun d hd => hr d (by simp [hd])) e2
      exact ⟨⟨ρ, tm, h, undefV, h, false⟩ :: rs, ρ', tm', h2, hs', .cons ⟨w, g, d, a⟩ l ⟨ρ, tm, h, undefV, h, false⟩ hs rs _ _ _ _ g1 (fun x => by cases x) (fun _ => ⟨rfl, rfl⟩) t, e4⟩
theorem Tr.run {env : Env} {l : List Dsc} {ρ tm h hs rs ρ' tm' h' hs'} (t : Tr env l ρ tm h hs rs ρ' tm' h' hs') (nx : Nd) : runD l env ρ tm h hs nx = nx ρ' tm' h' hs' := by
  induction t with
  | nil => rfl
  | cons d l rc hs rs ρ' tm' h' hs' g1 a1 a2 _ ih =>
    obtain ⟨w, g, dd, a⟩ := d
    show guardK g rc.ρ (a env rc.ρ rc.tm rc.h fun v h' => putK dd v rc.tm fun tm => runD l env (.c v rc.ρ) tm h' (Bool.rec hs (rc.h :: hs) w) nx) (putK dd undefV rc.tm fun tm => runD l env (.c undefV rc.ρ) tm rc.h (Bool.rec hs (rc.h :: hs) w) nx) = _
    have hw : (Bool.rec hs (rc.h :: hs) w : List H) = if w = true then rc.h :: hs else hs := by cases w <;> rfl
    rw [hw, guardK_of g1]
    cases hrun : rc.run with
    | true =>
      rw [if_pos rfl]
      have := a1 hrun
      simp only at this
      rw [this, putK_eq]; exact ih
    | false =>
      rw [if_neg (by simp), putK_eq]
      obtain ⟨h1, h2⟩ := a2 hrun
      rw [h1, h2] at ih; exact ih
theorem Tr.len {env : Env} {l : List Dsc} {ρ tm h hs rs ρ' tm' h' hs'} (t : Tr env l ρ tm h hs rs ρ' tm' h' hs') : rs.length = l.length := by
  induction t with
  | nil => rfl
  | cons _ _ _ _ _ _ _ _ _ _ _ _ _ ih => simp [ih]
/-- each operation by itself -/
theorem Tr.at {env : Env} {l : List Dsc} {ρ tm h hs rs ρ' tm' h' hs'} (t : Tr env l ρ tm h hs rs ρ' tm' h' hs') : ∀ {i : Nat} {d : Dsc} {rc : Rc}, l[i]? = some d → rs[i]? = some rc →
    GuardR d.g rc.ρ rc.run ∧ (rc.run = true → ∀ k', d.a env rc.ρ rc.tm rc.h k' = k' rc.v rc.h') ∧ (rc.run = false → rc.v = undefV ∧ rc.h' = rc.h) := by
  induction t with
  | nil => intro i d rc h; simp at h
  | cons d l rc hs rs ρ' tm' h' hs' g1 a1 a2 _ ih =>
    intro i d' rc' h1 h2
    cases i with
    | zero => simp at h1 h2; subst h1; subst h2; exact ⟨g1, a1, a2⟩
    | succ i => exact ih (by simpa using h1) (by simpa using h2)
theorem nthK_c0 (v l : V) (c : V → R) : nthK 0 (.c v l) c = c v := rfl
theorem nthK_cs (k : Nat) (v l : V) (c : V → R) : nthK (k + 1) (.c v l) c = nthK k l c := rfl
/-- the results so far -/
theorem Tr.res {env : Env} {l : List Dsc} {ρ tm h hs rs ρ' tm' h' hs'} (t : Tr env l ρ tm h hs rs ρ' tm' h' hs') : ∀ {i : Nat} {rc : Rc}, rs[i]? = some rc → ∀ (k : Nat) (rk : Rc), k < i → rs[i - 1 - k]? = some rk → ∀ c, nthK k rc.ρ c = c rk.v := by
  have key : ∀ {l : List Dsc} {ρ tm h hs rs ρ' tm' h' hs'} (t : Tr env l ρ tm h hs rs ρ' tm' h' hs'), ∀ {i : Nat} {rc : Rc}, rs[i]? = some rc → (∀ (k : Nat) (rk : Rc), k < i → rs[i - 1 - k]? = some rk → ∀ c, nthK k rc.ρ c = c rk.v) ∧ (∀ k c, nthK (i + k) rc.ρ c = nthK k ρ c) := by
    intro l ρ tm h hs rs ρ' tm' h' hs' t
    induction t with
    | nil => intro i rc h; simp at h
    | cons d l rc hs rs ρ' tm' h' hs' g1 a1 a2 _ ih =>
      intro i rc' h2
      cases i with
      | zero => simp at h2; subst h2; exact ⟨fun k _ hk => by omega, fun k c => by rw [Nat.zero_add]⟩
      | succ i =>
        obtain ⟨p, q⟩ := ih (i := i) (rc := rc') (by simpa using h2)
        refine ⟨fun k rk hk hrk c => ?_, fun k c => ?_⟩
        · by_cases hki : k < i
          · have e : i + 1 - 1 - k = (i - 1 - k) + 1 := by omega
            rw [e] at hrk
            exact p k rk hki (by simpa using hrk) c
          · have : k = i := by omega
            subst this
            have e : k + 1 - 1 - k = 0 := by omega
            rw [e] at hrk
            simp at hrk; subst hrk
            have := q 0 c
            rw [Nat.add_zero] at this
            rw [this]; rfl
        · have := q (k + 1) c
          rw [show i + 1 + k = i + (k + 1) from by omega, this]; rfl
  exact fun {i rc} hrc => (key t hrc).1
theorem Tr.resEnd {env : Env} {l : List Dsc} {ρ tm h hs rs ρ' tm' h' hs'} (t : Tr env l ρ tm h hs rs ρ' tm' h' hs') : ∀ {i : Nat} {rc : Rc}, rs[i]? = some rc → ∀ c, nthK (rs.length - 1 - i) ρ' c = c rc.v := by
  have key : ∀ {l : List Dsc} {ρ tm h hs rs ρ' tm' h' hs'} (t : Tr env l ρ tm h hs rs ρ' tm' h' hs'), (∀ {i : Nat} {rc : Rc}, rs[i]? = some rc → ∀ c, nthK (rs.length - 1 - i) ρ' c = c rc.v) ∧ ∀ k c, nthK (rs.length + k) ρ' c = nthK k ρ c := by
    intro l ρ tm h hs rs ρ' tm' h' hs' t
    induction t with
    | nil => exact ⟨fun h => by simp at h, fun k c => by rw [List.length_nil, Nat.zero_add]⟩
    | cons d l rc hs rs ρ' tm' h' hs' g1 a1 a2 _ ih =>
      obtain ⟨p, q⟩ := ih
      refine ⟨fun {i rc'} h2 c => ?_, fun k c => ?_⟩
      · cases i with
        | zero =>
          simp at h2; subst h2
          have := q 0 c
          rw [Nat.add_zero] at this
          rw [List.length_cons, show rs.length + 1 - 1 - 0 = rs.length from by omega, this]; rfl
        | succ i =>
          have := p (i := i) (rc := rc') (by simpa using h2) c
          rw [List.length_cons, show rs.length + 1 - 1 - (i + 1) = rs.length - 1 - i from by omega]; exact this
      · have := q (k + 1) c
        rw [List.length_cons, show rs.length + 1 + k = rs.length + (k + 1) from by omega, this]; rfl
  exact fun {i rc} hrc => (key t).1 hrc
theorem gt_putP {d : Option Pa} {p : Pa} {v : V} {tm : T V} (h : d ≠ some p) : gt undefV p (putP d v tm) = gt undefV p tm := by
  cases d with
  | none => rfl
  | some q => exact gt_st_ne _ _ _ _ _ (fun e => h (e ▸ rfl))
/-- the slots -/
theorem Tr.slot {env : Env} {l : List Dsc} {ρ tm h hs rs ρ' tm' h' hs'} (t : Tr env l ρ tm h hs rs ρ' tm' h' hs') (p : Pa) :
    (∀ {i : Nat} {rc : Rc}, rs[i]? = some rc → (∀ (j : Nat) (d : Dsc), j < i → l[j]? = some d → d.d ≠ some p) → gt undefV p rc.tm = gt undefV p tm) ∧
    ((∀ (j : Nat) (d : Dsc), l[j]? = some d → d.d ≠ some p) → gt undefV p tm' = gt undefV p tm) ∧
    (∀ (j : Nat) (d : Dsc) (rc : Rc), l[j]? = some d → rs[j]? = some rc → d.d = some p → (∀ (j' : Nat) (d' : Dsc), j < j' → l[j']? = some d' → d'.d ≠ some p) → gt undefV p tm' = rc.v) := by
  induction t with
  | nil => exact ⟨fun h => by simp at h, fun _ => rfl, fun j d rc h => by simp at h⟩
  | cons d l rc hs rs ρ' tm' h' hs' g1 a1 a2 _ ih =>
    obtain ⟨i1, i2, i3⟩ := ih
    refine ⟨fun {i rc'} h2 hj => ?_, fun hj => ?_, fun j d' rc' h1 h2 h3 h4 => ?_⟩
    · cases i with
      | zero => simp at h2; subst h2; rfl
      | succ i =>
        have := i1 (i := i) (rc := rc') (by simpa using h2) (fun j d' hji hd => hj (j + 1) d' (by omega) (by simpa using hd))
        rw [this]; exact gt_putP (hj 0 d (by omega) rfl)
    · rw [i2 (fun j d' hd => hj (j + 1) d' (by simpa using hd))]
      exact gt_putP (hj 0 d rfl)
    · cases j with
      | zero =>
        simp at h1 h2; subst h1; subst h2
        rw [i2 (fun j d' hd => h4 (j + 1) d' (by omega) (by simpa using hd)), h3]
        exact gt_st_same _ _ _ _
      | succ j => exact i3 j d' rc' (by simpa using h1) (by simpa using h2) h3 (fun j' d'' hj hd => h4 (j' + 1) d'' (by omega) (by simpa using hd))
def wOf (l : List Dsc) (j : Nat) : Bool := ((l[j]?).map (·.w)).getD false
/-- the heaps: ahead of each that writes, and at last -/
theorem Tr.heaps {env : Env} {l : List Dsc} {ρ tm h hs rs ρ' tm' h' hs'} (t : Tr env l ρ tm h hs rs ρ' tm' h' hs') (hq : ∀ (i : Nat) d rc, l[i]? = some d → rs[i]? = some rc → d.w = false → rc.h' = rc.h) :
    (h' :: hs').reverse[hs.length]? = some h ∧ (∀ k, k < hs.length → (h' :: hs').reverse[k]? = hs.reverse[k]?) ∧ hs'.length = hs.length + wc (wOf l) l.length ∧
    ∀ {i : Nat} {rc : Rc}, rs[i]? = some rc → (h' :: hs').reverse[hs.length + wc (wOf l) i]? = some rc.h ∧ (h' :: hs').reverse[hs.length + wc (wOf l) (i + 1)]? = some rc.h' := by
  induction t with
  | nil ρ tm h hs =>
    refine ⟨?_, fun k hk => ?_, rfl, fun h => by simp at h⟩
    · simp
    · simp only [List.reverse_cons]; rw [List.getElem?_append_left (by simpa using hk)]
  | cons d l rc hs rs ρ' tm' h' hs' g1 a1 a2 _ ih =>
    have ih := ih (fun i d' rc' h1 h2 => hq (i + 1) d' rc' (by simpa using h1) (by simpa using h2))
    have hwc : ∀ n, wc (wOf (d :: l)) (n + 1) = (if d.w = true then 1 else 0) + wc (wOf l) n := by
      intro n
      induction n with
      | zero => unfold wc; simp [cntN, wOf]
      | succ n ihn =>
        unfold wc at ihn ⊢
        have e1 : ∀ L m, cntN (wOf (d :: l)) L (m + 1) = cntN (wOf (d :: l)) L m + (if (wOf (d :: l) m && L m) = true then 1 else 0) := fun _ _ => rfl
        have e2 : ∀ L m, cntN (wOf l) L (m + 1) = cntN (wOf l) L m + (if (wOf l m && L m) = true then 1 else 0) := fun _ _ => rfl
        have e3 : wOf (d :: l) (n + 1) = wOf l n := by simp [wOf]
        rw [e1, ihn, e2, e3]; simp only [Nat.add_assoc]
    have hwc0 : wc (wOf (d :: l)) 0 = 0 := rfl
    cases hw : d.w with
    | true =>
      simp only [hw, if_true] at ih hwc
      obtain ⟨i1, i2, i3, i4⟩ := ih
      have h0 : (h' :: hs').reverse[hs.length]? = some rc.h := by
        rw [i2 hs.length (by simp)]; simp
      refine ⟨h0, fun k hk => ?_, ?_, fun {i rc'} h2 => ?_⟩
      · rw [i2 k (by simp; omega)]
        simp only [List.reverse_cons]; rw [List.getElem?_append_left (by simpa using hk)]
      · rw [i3, List.length_cons, List.length_cons, hwc]; omega
      · cases i with
        | zero =>
          simp at h2; subst h2
          rw [hwc0, Nat.add_zero, hwc]
          refine ⟨h0, ?_⟩
          have : wc (wOf l) 0 = 0 := rfl
          rw [this]; simpa using i1
        | succ i =>
          have := i4 (i := i) (rc := rc') (by simpa using h2)
          rw [hwc, hwc]
          simp only [List.length_cons] at this
          rw [show hs.length + (1 + wc (wOf l) i) = hs.length + 1 + wc (wOf l) i from by omega, show hs.length + (1 + wc (wOf l) (i + 1)) = hs.length + 1 + wc (wOf l) (i + 1) from by omega]
          exact this
    | false =>
      simp only [hw, Bool.false_eq_true, if_false, Nat.zero_add] at ih hwc
      obtain ⟨i1, i2, i3, i4⟩ := ih
      have hh : rc.h' = rc.h := hq 0 d rc rfl rfl hw
      rw [hh] at i1
      refine ⟨i1, i2, ?_, fun {i rc'} h2 => ?_⟩
      · rw [i3, List.length_cons, hwc]
      · cases i with
        | zero =>
          simp at h2; subst h2
          rw [hwc0, Nat.add_zero, hwc]
          have : wc (wOf l) 0 = 0 := rfl
          rw [this, hh]; exact ⟨i1, by simpa using i1⟩
        | succ i =>
          rw [hwc, hwc]
          exact i4 (i := i) (rc := rc') (by simpa using h2)
/-! what is looked at again -/
theorem eqInt_T {a b : Int} (h : eqInt a b = true) : a = b := by rw [eqInt_eq] at h; simpa using h
theorem eqList_T : ∀ {a b : List Nat}, eqList a b = true → a = b
  | [], [], _ => rfl
  | [], _ :: _, h => by cases h
  | _ :: _, [], h => by cases h
  | x :: a, y :: b, h => by
    have h' : (Bool.rec false (eqList a b) (Nat.beq x y) : Bool) = true := h
    cases hx : Nat.beq x y with
    | false => rw [hx] at h'; cases h'
    | true =>
      rw [hx] at h'
      have e := beq_eq hx
      subst e
      rw [eqList_T (a := a) (b := b) h']
theorem elZ_inv {v : V} {f : Nat → R} {a} (h : elZ v f none = some a) : ∃ q, v = .z q ∧ f q = some a := by cases v <;> first | exact ⟨_, rfl, h⟩ | cases h
theorem veqK_inv {x : V} : ∀ {y : V} {k : R} {a}, veqK x y k = some a → x = y ∧ k = some a ∧ ∀ k', veqK x y k' = k' := by
  induction x with
  | b x =>
    intro y k a h
    obtain ⟨c, rfl, h1⟩ := elB_inv (v := y) h
    obtain ⟨h2, h3⟩ := boolT h1
    cases x <;> cases c <;> first | exact ⟨rfl, h3, fun _ => rfl⟩ | cases h2
  | i kd n =>
    intro y k a h
    obtain ⟨kd', n', rfl, h1⟩ := elI_inv (v := y) h
    obtain ⟨h2, h3⟩ := boolT (x := kdEq kd kd') h1
    obtain ⟨h4, h5⟩ := boolT (x := eqInt n n') h3
    refine ⟨by rw [kdEq_iff h2, eqInt_T h4], h5, fun k' => ?_⟩
    show (Bool.rec none (Bool.rec none k' (eqInt n n') : R) (kdEq kd kd') : R) = _
    rw [h2, h4]
  | s n l =>
    intro y k a h
    obtain ⟨n', l', rfl, h1⟩ := elS_inv (v := y) h
    obtain ⟨h2, h3⟩ := boolT (x := sEq n l n' l') h1
    have h2' : (Bool.rec false (eqList l l') (Nat.beq n n') : Bool) = true := h2
    cases hn : Nat.beq n n' with
    | false => rw [hn] at h2'; cases h2'
    | true =>
      rw [hn] at h2'
      refine ⟨by rw [beq_eq hn, eqList_T h2'], h3, fun k' => ?_⟩
      show (Bool.rec none k' (sEq n l n' l') : R) = _
      rw [h2]
  | p b o =>
    intro y k a h
    obtain ⟨b', o', rfl, h1⟩ := elP_inv (v := y) h
    obtain ⟨h2, h3⟩ := boolT (x := Nat.beq o o') h1
    obtain ⟨h4, h5⟩ := boolT (x := paEq b b') h3
    refine ⟨by rw [beq_eq h2, (paEq_iff _ _).1 h4], h5, fun k' => ?_⟩
    show (Bool.rec none (Bool.rec none k' (paEq b b') : R) (Nat.beq o o') : R) = _
    rw [h2, h4]
  | sl b o n c e x =>
    intro y k a h
    rcases elL_inv (v := y) h with ⟨_, h1⟩ | ⟨b', o', n', c', e', x', rfl, h1⟩
    · cases h1
    · obtain ⟨g1, h1⟩ := boolT (x := (Bool.rec (not x') x' x)) h1
      obtain ⟨g2, h1⟩ := boolT (x := Nat.beq e e') h1
      obtain ⟨g3, h1⟩ := boolT (x := Nat.beq c c') h1
      obtain ⟨g4, h1⟩ := boolT (x := Nat.beq n n') h1
      obtain ⟨g5, h1⟩ := boolT (x := Nat.beq o o') h1
      obtain ⟨g6, h1⟩ := boolT (x := paEq b b') h1
      have hx : x = x' := by cases x <;> cases x' <;> first | rfl | cases g1
      refine ⟨by rw [hx, beq_eq g2, beq_eq g3, beq_eq g4, beq_eq g5, (paEq_iff _ _).1 g6], h1, fun k' => ?_⟩
      show (Bool.rec none (Bool.rec none (Bool.rec none (Bool.rec none (Bool.rec none (Bool.rec none k' (paEq b b') : R) (Nat.beq o o') : R) (Nat.beq n n') : R) (Nat.beq c c') : R) (Nat.beq e e') : R) (Bool.rec (not x') x' x : Bool) : R) = _
      rw [g1, g2, g3, g4, g5, g6]
  | z q =>
    intro y k a h
    obtain ⟨q', rfl, h1⟩ := elZ_inv (v := y) h
    obtain ⟨h2, h3⟩ := boolT (x := Nat.beq q q') h1
    refine ⟨by rw [beq_eq h2], h3, fun k' => ?_⟩
    show (Bool.rec none k' (Nat.beq q q') : R) = _
    rw [h2]
  | m r =>
    intro y k a h
    rcases elM_inv (v := y) h with ⟨_, h1⟩ | ⟨r', rfl, h1⟩
    · cases h1
    · obtain ⟨h2, h3⟩ := boolT (x := paEq r r') h1
      refine ⟨by rw [(paEq_iff _ _).1 h2], h3, fun k' => ?_⟩
      show (Bool.rec none k' (paEq r r') : R) = _
      rw [h2]
  | f => intro y k a h; cases h
  | ifc => intro y k a h; cases h
  | ag n l ih =>
    intro y k a h
    obtain ⟨n', l', rfl, h1⟩ := elAg_inv (v := y) h
    obtain ⟨h2, h3⟩ := boolT (x := Nat.beq n n') h1
    obtain ⟨rfl, h4, h5⟩ := ih h3
    refine ⟨by rw [beq_eq h2], h4, fun k' => ?_⟩
    show (Bool.rec none (veqK l l k') (Nat.beq n n') : R) = _
    rw [h2]; exact h5 k'
  | tu l ih =>
    intro y k a h
    obtain ⟨l', rfl, h1⟩ := elTu_inv (v := y) h
    obtain ⟨rfl, h4, h5⟩ := ih h1
    exact ⟨rfl, h4, h5⟩
  | c v l ih1 ih2 =>
    intro y k a h
    rcases elC_inv (v := y) h with ⟨_, h1⟩ | ⟨v', l', rfl, h1⟩
    · cases h1
    · obtain ⟨rfl, h2, h3⟩ := ih1 (k := veqK l l' k) h1
      obtain ⟨rfl, h4, h5⟩ := ih2 h2
      exact ⟨rfl, h4, fun k' => (h3 _).trans (h5 k')⟩
theorem nthH_inv {k : Nat} {hs : List H} {c : H → R} {a} (h : nthH k hs c = some a) : ∃ x, hs[k]? = some x ∧ (∀ c', nthH k hs c' = c' x) ∧ c x = some a := by
  induction k generalizing hs with
  | zero => cases hs with
    | nil => cases h
    | cons x r => exact ⟨x, rfl, fun _ => rfl, h⟩
  | succ k ih => cases hs with
    | nil => cases h
    | cons x r =>
      obtain ⟨y, h1, h2, h3⟩ := ih (hs := r) h
      exact ⟨y, by simpa using h1, h2, h3⟩
theorem runKs_inv {a : Ac} {env : Env} (hr : Reg0 env a) {ρ : V} {tm : T V} {hs : List H} {v : V} : ∀ {ks : List Nat} {c : R} {ans}, runKs a env ρ tm hs v ks c = some ans →
    c = some ans ∧ (∀ c', runKs a env ρ tm hs v ks c' = c') ∧ ∀ k ∈ ks, ∃ h, hs[k]? = some h ∧ ∀ k', a env ρ tm h k' = k' v h
  | [], c, ans, h => ⟨h, fun _ => rfl, by simp⟩
  | k :: ks, c, ans, h => by
    obtain ⟨x, h1, h2, h3⟩ := nthH_inv (k := k) (hs := hs) h
    obtain ⟨v', h4, h5⟩ := hr _ _ _ _ _ h3
    obtain ⟨rfl, h6, h7⟩ := veqK_inv h5
    obtain ⟨i1, i2, i3⟩ := runKs_inv hr (ks := ks) h6
    refine ⟨i1, fun c' => (h2 _).trans ((h4 _).trans ((h7 _).trans (i2 c'))), fun k' hk' => ?_⟩
    rcases List.mem_cons.1 hk' with rfl | hk'
    · exact ⟨x, h1, h4⟩
    · exact i3 k' hk'
theorem runCk_inv {env : Env} {ρ : V} {tm : T V} {hs : List H} : ∀ {l : List Ck}, (∀ K ∈ l, Reg0 env K.a) → ∀ {c : R} {ans}, runCk l env ρ tm hs c = some ans →
    c = some ans ∧ (∀ c', runCk l env ρ tm hs c' = c') ∧ ∀ K ∈ l, ∃ v run, (∀ c, nthK K.j ρ c = c v) ∧ GuardR K.g ρ run ∧ (run = true → ∀ k ∈ K.ks, ∃ h, hs[k]? = some h ∧ ∀ k', K.a env ρ tm h k' = k' v h)
  | [], _, c, ans, h => ⟨h, fun _ => rfl, by simp⟩
  | ⟨j, g, a, ks⟩ :: l, hr, c, ans, h => by
    obtain ⟨v, h1, h2, _⟩ := nthK_inv (k := j) (l := ρ) h
    obtain ⟨run, g1, g2, h3⟩ := guardK_inv h2
    have key : runCk l env ρ tm hs c = some ans ∧ (∀ c', guardK g ρ (runKs a env ρ tm hs v ks (runCk l env ρ tm hs c')) (runCk l env ρ tm hs c') = runCk l env ρ tm hs c') ∧
        (run = true → ∀ k ∈ ks, ∃ h, hs[k]? = some h ∧ ∀ k', a env ρ tm h k' = k' v h) := by
      cases run with
      | true =>
        rw [if_pos rfl] at h3
        obtain ⟨i1, i2, i3⟩ := runKs_inv (hr ⟨j, g, a, ks⟩ (by simp)) h3
        exact ⟨i1, fun c' => by rw [g2, if_pos rfl]; exact i2 _, fun _ => i3⟩
      | false =>
        rw [if_neg (by simp)] at h3
        exact ⟨h3, fun c' => by rw [g2, if_neg (by simp)], fun x => by cases x⟩
    obtain ⟨k1, k2, k3⟩ := key
    obtain ⟨i1, i2, i3⟩ := runCk_inv (l := l) (fun K hK => hr K (by simp [hK])) k1
    refine ⟨i1, fun c' => (h1 _).trans ((k2 c').trans (i2 c')), fun K hK => ?_⟩
    rcases List.mem_cons.1 hK with rfl | hK
    · exact ⟨v, run, h1, g1, k3⟩
    · exact i3 K hK
end Go.Ab
namespace Go.Ab
open Go Go.RowKit
/-- what is known of a compiled operation; k: 0 looks at no heap, 1 changes none, else: any -/
structure OpOK (P : Program) (m : List (Option Nat)) (sl : List (Nat × Pa)) (env : Env) (k : Nat) (a : Ac) (op : Go.Op) : Prop where
  pu : k = 0 → AOKP P m sl env a op
  re : k = 1 → AOK0 P m sl env a op
  al : AOK P m sl env a op
/-- what the results so far have filled, of what i looks at -/
def mUp (ops : Array Oper) (bf : Nat → Nat → Bool) (i : Nat) (nm : List Tmp) : Nat → List (Option Nat)
  | 0 => []
  | k + 1 => (match dstOf ops k with | some t => if bf i k && nm.contains t then some t else none | none => none) :: mUp ops bf i nm k
def allN (f : Nat → Bool) : Nat → Bool
  | 0 => true
  | n + 1 => f n && allN f n
theorem allN_spec {f : Nat → Bool} {n : Nat} (h : allN f n = true) : ∀ j, j < n → f j = true := by
  induction n with
  | zero => intro j hj; omega
  | succ n ih =>
    simp only [allN, Bool.and_eq_true] at h
    intro j hj
    by_cases e : j = n
    · subst e; exact h.1
    · exact ih h.2 j (by omega)
def isD (o : Option Nat) (t : Nat) : Bool := match o with | some u => Nat.beq u t | none => false
theorem isD_iff {o : Option Nat} {t : Nat} : isD o t = true ↔ o = some t := by
  cases o with
  | none => simp [isD]
  | some u => simp [isD, Nat.beq_eq]
/-- the slots that i may look at: what it names, and none before it fills -/
def slOf (ops : Array Oper) (bf : Nat → Nat → Bool) (i : Nat) (nm : List Tmp) (sl : List (Nat × Pa)) : List (Nat × Pa) :=
  sl.filter fun q => nm.contains q.1 && allN (fun j => Nat.beq j i || !isD (dstOf ops j) q.1 || bf j i) ops.size
def slNo (ops : Array Oper) (nm : List Tmp) (sl : List (Nat × Pa)) : List (Nat × Pa) :=
  sl.filter fun q => nm.contains q.1 && allN (fun j => !isD (dstOf ops j) q.1) ops.size
theorem lk_filter {f : Nat → Bool} {sl : List (Nat × Pa)} {t : Nat} {p : Pa} (h : lk t (sl.filter fun q => f q.1) = some p) : f t = true ∧ lk t sl = some p := by
  induction sl with
  | nil => cases h
  | cons q l ih =>
    obtain ⟨u, r⟩ := q
    rw [List.filter_cons] at h
    by_cases hf : f u = true
    · simp only [hf, if_true] at h
      unfold lk at h ⊢
      by_cases hb : Nat.beq u t = true
      · simp only [hb, if_true] at h ⊢
        rw [beq_eq hb] at hf
        exact ⟨hf, h⟩
      · simp only [hb, if_false, Bool.false_eq_true] at h ⊢
        exact ih h
    · simp only [hf, if_false, Bool.false_eq_true] at h
      obtain ⟨h1, h2⟩ := ih h
      refine ⟨h1, ?_⟩
      unfold lk
      by_cases hb : Nat.beq u t = true
      · exact absurd (by rw [beq_eq hb]; exact h1) hf
      · simp only [hb, if_false, Bool.false_eq_true]; exact h2
def SlInj (sl : List (Nat × Pa)) : Prop := ∀ t t' p, lk t sl = some p → lk t' sl = some p → t = t'
section
variable {ops : Array Oper} {bf : Nat → Nat → Bool} {i : Nat} {nm : List Tmp}
/-- the last of those before i that fill t -/
theorem ago_mUp {t : Tmp} : ∀ {n k : Nat}, ago t (mUp ops bf i nm n) = some k → k < n ∧ bf i (n - 1 - k) = true ∧ dstOf ops (n - 1 - k) = some t ∧ t ∈ nm ∧ ∀ j, j < n → bf i j = true → dstOf ops j = some t → j ≤ n - 1 - k := by
  intro n
  induction n with
  | zero => intro k h; cases h
  | succ n ih =>
    intro k h
    have skip : ∀ {k}, (ago t (mUp ops bf i nm n)).map (· + 1) = some k → ¬ (bf i n = true ∧ dstOf ops n = some t ∧ t ∈ nm) → k < n + 1 ∧ bf i (n + 1 - 1 - k) = true ∧ dstOf ops (n + 1 - 1 - k) = some t ∧ t ∈ nm ∧ ∀ j, j < n + 1 → bf i j = true → dstOf ops j = some t → j ≤ n + 1 - 1 - k := by
      intro k hk hno
      rw [Option.map_eq_some_iff] at hk
      obtain ⟨k', hk', rfl⟩ := hk
      obtain ⟨a, b, c, d, e⟩ := ih hk'
      have e1 : n + 1 - 1 - (k' + 1) = n - 1 - k' := by omega
      rw [e1]
      refine ⟨by omega, b, c, d, fun j hj h1 h2 => ?_⟩
      by_cases hjn : j = n
      · subst hjn; exact absurd ⟨h1, h2, d⟩ hno
      · exact e j (by omega) h1 h2
    unfold mUp at h
    cases hd : dstOf ops n with
    | none =>
      rw [hd] at h
      exact skip h (fun ⟨_, x, _⟩ => by rw [hd] at x; cases x)
    | some u =>
      rw [hd] at h
      simp only at h
      by_cases hc : (bf i n && nm.contains u) = true
      · rw [if_pos hc] at h
        simp only [Bool.and_eq_true, List.contains_iff_mem] at hc
        simp only [ago] at h
        by_cases hb : Nat.beq u t = true
        · rw [if_pos hb] at h; cases h
          have := beq_eq hb
          subst this
          exact ⟨by omega, hc.1, hd, hc.2, fun j hj _ _ => by omega⟩
        · rw [if_neg hb] at h
          exact skip h (fun ⟨_, x, _⟩ => by rw [hd] at x; cases x; exact hb (Nat.beq_refl _))
      · rw [if_neg hc] at h
        exact skip h (fun ⟨x, y, z⟩ => hc (by
          rw [hd] at y; cases y
          simp only [Bool.and_eq_true, List.contains_iff_mem]; exact ⟨x, z⟩))
theorem mUp_more (hlt : ∀ j, bf i j = true → j < i) {t : Tmp} : ∀ n, ago t (mUp ops bf i nm (i + n)) = (ago t (mUp ops bf i nm i)).map (· + n)
  | 0 => by cases ago t (mUp ops bf i nm i) <;> rfl
  | n + 1 => by
    have hb : bf i (i + n) = false := by
      cases h : bf i (i + n) with
      | false => rfl
      | true => have := hlt _ h; omega
    have e : mUp ops bf i nm (i + (n + 1)) = none :: mUp ops bf i nm (i + n) := by
      show (match dstOf ops (i + n) with | some t => if bf i (i + n) && nm.contains t then some t else none | none => none) :: _ = _
      rw [hb]
      cases dstOf ops (i + n) <;> simp
    rw [e]
    show (ago t (mUp ops bf i nm (i + n))).map (· + 1) = _
    rw [mUp_more hlt n, Option.map_map]
    congr 1
end
/-- what a guard asks -/
theorem ask_wanted {σ : Sg} {gv : V} {z : Value} (h : VR σ gv z) (x : Bool) : askG gv x = ((match (some z : Option Value) with | some (.bool b) => some b | _ => none : Option Bool) == some x) := by
  cases h <;> first | rfl | (rename_i b; cases b <;> cases x <;> rfl)
theorem yielded_eq {ops : Array Oper} {act : Act} {g : Nat} {t : Tmp} (h : dstOf ops g = some t) : yielded ops act.tmps g = (match (some (act.tmps.getD t undef) : Option Value) with | some (.bool b) => some b | _ => none) := by
  unfold yielded
  have : (ops[g]?).bind (·.dst) = some t := h
  rw [this]
  show (match act.tmps[t]? with | some (.bool b) => some b | _ => none) = _
  rw [Array.getD_eq_getD_getElem?]
  cases act.tmps[t]? with
  | none => rfl
  | some z => rfl
section
variable {P : Program} {ops : Array Oper} {bf : Nat → Nat → Bool} {names : Nat → List Tmp} {sl : List (Nat × Pa)} {env : Env} {l : List Dsc} {kd : Nat → Nat}
/-- how a region has been compiled -/
structure Comp (P : Program) (ops : Array Oper) (bf : Nat → Nat → Bool) (names : Nat → List Tmp) (sl : List (Nat × Pa)) (env : Env) (l : List Dsc) (kd : Nat → Nat) : Prop where
  len : l.length = ops.size
  ops : ∀ i o, ops[i]? = some o → ∃ d, l[i]? = some d ∧ d.w = decide (2 ≤ kd i) ∧ OpOK P (mUp ops bf i (names i) i) (slOf ops bf i (names i) sl) env (kd i) d.a o.op ∧ d.d = o.dst.bind (lk · sl) ∧
    match o.guard with | none => d.g = none | some (g, x) => ∃ t j, dstOf ops g = some t ∧ ago t (mUp ops bf i (names i) i) = some j ∧ d.g = some (j, x)
/-- what is looked at again -/
def CksOK (P : Program) (ops : Array Oper) (bf : Nat → Nat → Bool) (names : Nat → List Tmp) (sl : List (Nat × Pa)) (env : Env) (l : List Dsc) (kd : Nat → Nat) (cks : List Ck) : Prop :=
  (∀ K ∈ cks, Reg0 env K.a) ∧ ∀ i o d, ops[i]? = some o → l[i]? = some d → kd i = 1 → ∀ k, phase ops bf (wOf l) i k → k ≠ wc (wOf l) i → ∃ K ∈ cks, K.j = ops.size - 1 - i ∧ K.g = d.g.map (fun q => (q.1 + (ops.size - i), q.2)) ∧
    AOK0 P (mUp ops bf i (names i) ops.size) (slNo ops (names i) sl) env K.a o.op ∧ wc (wOf l) ops.size - k ∈ K.ks
theorem wOf_eq (hC : Comp P ops bf names sl env l kd) {i : Nat} (hi : i < ops.size) : wOf l i = decide (2 ≤ kd i) := by
  obtain ⟨d, h1, h2, _⟩ := hC.ops i _ (Array.getElem?_eq_getElem hi)
  simp [wOf, h1, h2]
theorem named_rl {wr0 : Nat → Bool} (hO : Ord ops bf wr0 names) (hC : Comp P ops bf names sl env l kd) (hinj : SlInj sl) {tm0 tm' : T V} {h0 h' : H} {hs' : List H} {rs : List Rc} {ρ' : V} (t : Tr env l .e tm0 h0 [] rs ρ' tm' h' hs')
    {act0 act : Act} {σ0 σ : Sg} (hle : Le σ0 σ) (r0 : Rl σ0 [] sl .e tm0 act0) {i : Nat} (hi : i < ops.size) {rc : Rc} (hrc : rs[i]? = some rc)
    (hn : Named ops bf names (fun j => ((rs[j]?).map (·.v)).getD undefV) act0 σ act i) :
    Rl σ (mUp ops bf i (names i) i) (slOf ops bf i (names i) sl) rc.ρ rc.tm act ∧ Rl σ (mUp ops bf i (names i) ops.size) (slNo ops (names i) sl) ρ' tm' act := by
  have hlen : rs.length = ops.size := t.len.trans hC.len
  have hlt := fun j => hO.lt i j
  have key : ∀ tt k, ago tt (mUp ops bf i (names i) i) = some k → ∃ rk, rs[i - 1 - k]? = some rk ∧ VR σ rk.v (act.tmps.getD tt undef) ∧ k < i := by
    intro tt k hk
    obtain ⟨a1, a2, a3, a4, a5⟩ := ago_mUp hk
    have hlt' : i - 1 - k < rs.length := by omega
    refine ⟨rs[i - 1 - k], List.getElem?_eq_getElem hlt', ?_, a1⟩
    rcases hn tt a4 with ⟨j, b1, b2, b3, b4⟩ | ⟨b1, _⟩
    · have h1 := a5 j (hlt j b1) b1 b2
      have h2 := b3 _ a2 a3
      have : j = i - 1 - k := by omega
      subst this
      simpa [List.getElem?_eq_getElem hlt'] using b4
    · have hne : i - 1 - k ≠ i := by omega
      have := hO.lt _ _ (b1 _ (dstOf_lt a3) a3 hne)
      omega
  have slots : ∀ tt p, lk tt sl = some p → (∀ j, j < ops.size → dstOf ops j = some tt → j ≠ i → bf j i = true) → tt ∈ names i → VR σ (gt undefV p tm0) (act.tmps.getD tt undef) := by
    intro tt p hl hj htt
    rcases hn tt htt with ⟨j, b1, b2, b3, b4⟩ | ⟨_, b2⟩
    · have h1 := hlt j b1
      have := hO.lt _ _ (hj j (dstOf_lt b2) b2 (by omega))
      omega
    · rw [b2]; exact (r0.slot tt p hl).mono hle
  have slotOf : ∀ j d, l[j]? = some d → ∀ p tt, lk tt sl = some p → d.d = some p → dstOf ops j = some tt := by
    intro j d hj p tt hl hd
    have hjs : j < ops.size := by rw [← hC.len]; exact (List.getElem?_eq_some_iff.1 hj).1
    obtain ⟨d', h1, _, _, h4, _⟩ := hC.ops j _ (Array.getElem?_eq_getElem hjs)
    rw [hj] at h1; cases h1
    rw [h4] at hd
    cases ho : ops[j].dst with
    | none => rw [ho] at hd; cases hd
    | some u =>
      rw [ho] at hd
      have hu : lk u sl = some p := hd
      have := hinj u tt p hu hl
      subst this
      simp [dstOf, Array.getElem?_eq_getElem hjs, ho]
  refine ⟨⟨fun tt k hk => ?_, fun tt p hl => ?_⟩, ⟨fun tt k hk => ?_, fun tt p hl => ?_⟩⟩
  · obtain ⟨rk, h1, h2, h3⟩ := key tt k hk
    exact ⟨rk.v, fun c => t.res hrc k rk h3 h1 c, h2⟩
  · unfold slOf at hl
    obtain ⟨h1, h2⟩ := lk_filter (f := fun u => (names i).contains u && allN (fun j => Nat.beq j i || !isD (dstOf ops j) u || bf j i) ops.size) hl
    simp only [Bool.and_eq_true, List.contains_iff_mem] at h1
    have hall : ∀ j, j < ops.size → dstOf ops j = some tt → j ≠ i → bf j i = true := by
      intro j hj hd hne
      have := allN_spec h1.2 j hj
      simp only [Bool.or_eq_true, Bool.not_eq_true'] at this
      rcases this with (h | h) | h
      · exact absurd (beq_eq h) hne
      · rw [isD_iff.2 hd] at h; cases h
      · exact h
    have := slots tt p h2 hall h1.1
    rw [(t.slot p).1 hrc]
    · exact this
    · intro j d hji hj hd
      have hdj := slotOf j d hj p tt h2 hd
      have := hO.lt _ _ (hall j (by omega) hdj (by omega))
      omega
  · have e : ops.size = i + (ops.size - i) := by omega
    rw [e, mUp_more hlt, Option.map_eq_some_iff] at hk
    obtain ⟨k', hk', rfl⟩ := hk
    obtain ⟨rk, h1, h2, h3⟩ := key tt k' hk'
    refine ⟨rk.v, fun c => ?_, h2⟩
    have := t.resEnd h1 c
    rw [show rs.length - 1 - (i - 1 - k') = k' + (ops.size - i) from by omega] at this
    exact this
  · unfold slNo at hl
    obtain ⟨h1, h2⟩ := lk_filter (f := fun u => (names i).contains u && allN (fun j => !isD (dstOf ops j) u) ops.size) hl
    simp only [Bool.and_eq_true, List.contains_iff_mem] at h1
    have hno : ∀ j, j < ops.size → dstOf ops j ≠ some tt := by
      intro j hj hd
      have := allN_spec h1.2 j hj
      rw [isD_iff.2 hd] at this; cases this
    have := slots tt p h2 (fun j hj hd => absurd hd (hno j hj)) h1.1
    rw [(t.slot p).2.1]
    · exact this
    · intro j d hj hd
      have hjs : j < ops.size := by rw [← hC.len]; exact (List.getElem?_eq_some_iff.1 hj).1
      exact hno j hjs (slotOf j d hj p tt h2 hd)
theorem rev_idx {α : Type} {l : List α} {k : Nat} (hk : k < l.length) : l.reverse[k]? = l[l.length - 1 - k]? := List.getElem?_reverse hk
/-- from a run to what is known of it -/
theorem dyn_of {wr0 : Nat → Bool} (hO : Ord ops bf wr0 names) (hC : Comp P ops bf names sl env l kd) (hinj : SlInj sl) {tm0 tm' : T V} {h0 h' : H} {hs' : List H} {rs : List Rc} {ρ' : V} (t : Tr env l .e tm0 h0 [] rs ρ' tm' h' hs')
    {cks : List Ck} (hK : CksOK P ops bf names sl env l kd cks)
    (hrun : ∀ K ∈ cks, ∃ v run, (∀ c, nthK K.j ρ' c = c v) ∧ GuardR K.g ρ' run ∧ (run = true → ∀ k ∈ K.ks, ∃ h, (h' :: hs')[k]? = some h ∧ ∀ k', K.a env ρ' tm' h k' = k' v h))
    {act0 : Act} {σ0 : Sg} (r0 : Rl σ0 [] sl .e tm0 act0) (hdst : ∀ i t, dstOf ops i = some t → t < act0.tmps.size) (B : Fr) (w0 : World) :
    Dyn P ops bf (wOf l) names (fun j => ((rs[j]?).map (·.v)).getD undefV) (fun j => ((rs[j]?).map (·.run)).getD true) (fun k => ((h' :: hs').reverse[k]?).getD h') act0 σ0 B w0 ∧
    hs'.length = wc (wOf l) ops.size ∧ (h' :: hs').reverse[0]? = some h0 := by
  have hlen : rs.length = ops.size := t.len.trans hC.len
  have hq : ∀ (i : Nat) (d : Dsc) (rc : Rc), l[i]? = some d → rs[i]? = some rc → d.w = false → rc.h' = rc.h := by
    intro i d rc hd hr hw
    have his : i < ops.size := by rw [← hC.len]; exact (List.getElem?_eq_some_iff.1 hd).1
    obtain ⟨d', h1, h2, h3, _⟩ := hC.ops i _ (Array.getElem?_eq_getElem his)
    rw [hd] at h1; cases h1
    obtain ⟨_, a1, a2⟩ := t.at hd hr
    cases hrn : rc.run with
    | false => exact (a2 hrn).2
    | true =>
      have e := a1 hrn
      rw [hw] at h2
      have : kd i = 0 ∨ kd i = 1 := by
        have h2' := h2.symm
        simp only [decide_eq_false_iff_not] at h2'
        omega
      rcases this with h0 | h0
      · exact ((h3.pu h0).at e).2
      · exact ((h3.re h0).at e).2
  obtain ⟨q1, _, q3, q4⟩ := t.heaps hq
  simp only [List.length_nil, Nat.zero_add] at q1 q3 q4
  rw [hC.len] at q3
  refine ⟨⟨?_, ?_, ?_, hdst⟩, q3, q1⟩
  · intro i o ho hr k hph σ w act hle hnm hhr
    have his : i < ops.size := (Array.getElem?_eq_some_iff.1 ho).1
    have hrc : rs[i]? = some (rs[i]'(by omega)) := List.getElem?_eq_getElem (by omega)
    generalize rs[i]'(by omega) = rc at hrc
    have hr' : rc.run = true := by simpa [hrc] using hr
    obtain ⟨d, h1, h2, h3, h4, h5⟩ := hC.ops i o ho
    obtain ⟨g1, a1, a2⟩ := t.at h1 hrc
    have e := a1 hr'
    obtain ⟨rl1, rl2⟩ := named_rl hO hC hinj t hle r0 his hrc hnm
    have hv : ((rs[i]?).map (·.v)).getD undefV = rc.v := by simp [hrc]
    have hwi := wOf_eq hC his
    obtain ⟨p1, p2⟩ := q4 hrc
    show Goes P o act w fun cv w' => ∃ σ', Le σ σ' ∧ VR σ' (((rs[i]?).map (·.v)).getD undefV) cv ∧ _
    rw [hv]
    by_cases hw2 : 2 ≤ kd i
    · have hwt : wOf l i = true := by rw [hwi]; simpa using hw2
      have hk := hph.1 hwt
      subst hk
      have hwc : wc (wOf l) (i + 1) = wc (wOf l) i + 1 := by unfold wc; simp [cntN, hwt]
      rw [hwt]
      simp only [if_true]
      rw [← hwc]
      simp only [p1, p2, Option.getD_some] at hhr ⊢
      exact h3.al.at e σ B w0 w act rl1 hhr o rfl
    · have hwf : wOf l i = false := by rw [hwi]; simpa using hw2
      rw [hwf]
      simp only [Bool.false_eq_true, if_false]
      rcases (show kd i = 0 ∨ kd i = 1 by omega) with k0 | k0
      · exact ((h3.pu k0).at e).1 _ σ B w0 w act rl1 hhr o rfl
      · by_cases hkw : k = wc (wOf l) i
        · subst hkw
          simp only [p1, Option.getD_some] at hhr ⊢
          exact ((h3.re k0).at e).1 σ B w0 w act rl1 hhr o rfl
        · obtain ⟨K, hKm, k1, k2, k3, k4⟩ := hK.2 i o d ho h1 k0 k hph hkw
          obtain ⟨v, run, b1, b2, b3⟩ := hrun K hKm
          have hvv : v = rc.v := by
            have := t.resEnd hrc (fun v => some (v, h0))
            have e2 := b1 (fun v => some (v, h0))
            rw [k1] at e2
            rw [hlen] at this
            rw [this] at e2
            simpa using e2.symm
          subst hvv
          have hrun' : run = true := by
            rw [k2] at b2
            cases hg : d.g with
            | none => rw [hg] at b2; exact b2
            | some q =>
              obtain ⟨j, x⟩ := q
              rw [hg] at g1 b2
              obtain ⟨gv, c1, c2⟩ := g1
              obtain ⟨gv', c3, c4⟩ := b2
              have hgo : ∃ tt, ago tt (mUp ops bf i (names i) i) = some j := by
                cases hog : o.guard with
                | none => rw [hog] at h5; rw [hg] at h5; cases h5
                | some gx =>
                  rw [hog] at h5
                  obtain ⟨tt, j', _, e2, e3⟩ := h5
                  rw [hg] at e3; cases e3
                  exact ⟨tt, e2⟩
              obtain ⟨tt, hago⟩ := hgo
              obtain ⟨d1, d2, _⟩ := ago_mUp hago
              have hrk : rs[i - 1 - j]? = some (rs[i - 1 - j]'(by omega)) := List.getElem?_eq_getElem (by omega)
              generalize rs[i - 1 - j]'(by omega) = rk at hrk
              have e1 := t.res hrc j rk d1 hrk (fun v => some (v, h0))
              have e2 := t.resEnd hrk (fun v => some (v, h0))
              rw [c1] at e1
              have e3 := c3 (fun v => some (v, h0))
              simp only at e3
              rw [show rs.length - 1 - (i - 1 - j) = j + (ops.size - i) from by omega] at e2
              rw [e2] at e3
              simp at e1 e3
              rw [c4, ← e3, ← e1, ← c2]; exact hr'
          obtain ⟨hx, x1, x2⟩ := b3 hrun' _ k4
          have hkW : k ≤ hs'.length := by rw [q3]; exact hph.2.1
          have hidx : (h' :: hs').reverse[k]? = some hx := by
            rw [rev_idx (by simp; omega), ← x1]
            congr 1
            rw [List.length_cons, ← q3]; omega
          simp only [hidx, Option.getD_some] at hhr ⊢
          exact (k3.at x2).1 σ B w0 w act rl2 hhr o rfl
  · intro i his hr
    have hrc : rs[i]? = some (rs[i]'(by omega)) := List.getElem?_eq_getElem (by omega)
    generalize rs[i]'(by omega) = rc at hrc
    have hr' : rc.run = false := by simpa [hrc] using hr
    obtain ⟨d, h1, _⟩ := hC.ops i _ (Array.getElem?_eq_getElem his)
    obtain ⟨_, _, a2⟩ := t.at h1 hrc
    obtain ⟨p1, p2⟩ := q4 hrc
    refine ⟨by simp [hrc, (a2 hr').1], fun hwt => ?_⟩
    have hwc : wc (wOf l) (i + 1) = wc (wOf l) i + 1 := by unfold wc; simp [cntN, hwt]
    rw [← hwc]
    simp only [p1, p2, Option.getD_some]
    exact (a2 hr').2
  · intro i o ho σ act hle hnm
    have his : i < ops.size := (Array.getElem?_eq_some_iff.1 ho).1
    have hrc : rs[i]? = some (rs[i]'(by omega)) := List.getElem?_eq_getElem (by omega)
    generalize rs[i]'(by omega) = rc at hrc
    obtain ⟨d, h1, h2, h3, h4, h5⟩ := hC.ops i o ho
    obtain ⟨g1, _⟩ := t.at h1 hrc
    obtain ⟨rl1, _⟩ := named_rl hO hC hinj t hle r0 his hrc hnm
    show Region.wanted o (yielded ops act.tmps) = ((rs[i]?).map (·.run)).getD true
    rw [hrc]
    show _ = rc.run
    unfold Region.wanted
    cases hog : o.guard with
    | none =>
      rw [hog] at h5
      rw [h5] at g1
      exact g1.symm
    | some gx =>
      obtain ⟨g, x⟩ := gx
      rw [hog] at h5
      obtain ⟨tt, j, e1, e2, e3⟩ := h5
      rw [e3] at g1
      obtain ⟨gv, c1, c2⟩ := g1
      obtain ⟨gv', c3, c4⟩ := rl1.res tt j e2
      have : gv = gv' := by
        have e1 := (c1 fun v => some (v, h0)).symm.trans (c3 fun v => some (v, h0))
        simpa using e1
      subst this
      rw [c2, ask_wanted c4 x, ← yielded_eq e1]
/-- what holds behind a region -/
theorem rl_end (hC : Comp P ops bf names sl env l kd) (hinj : SlInj sl) {tm0 tm' : T V} {h0 h' : H} {hs' : List H} {rs : List Rc} {ρ' : V} (t : Tr env l .e tm0 h0 [] rs ρ' tm' h' hs')
    {act0 act : Act} {σ0 σ : Sg} (r0 : Rl σ0 [] sl .e tm0 act0) {B : Fr} {w0 w : World} {hk : Nat → H}
    (I : Inv ops (wOf l) (fun j => ((rs[j]?).map (·.v)).getD undefV) hk act0 σ0 B w0 (fun j => decide (j < ops.size)) act w σ) : Rl σ [] sl .e tm' act := by
  have hlen : rs.length = ops.size := t.len.trans hC.len
  have slotOf : ∀ j d, l[j]? = some d → ∀ p tt, lk tt sl = some p → d.d = some p → dstOf ops j = some tt := by
    intro j d hj p tt hl hd
    have hjs : j < ops.size := by rw [← hC.len]; exact (List.getElem?_eq_some_iff.1 hj).1
    obtain ⟨d', h1, _, _, h4, _⟩ := hC.ops j _ (Array.getElem?_eq_getElem hjs)
    rw [hj] at h1; cases h1
    rw [h4] at hd
    cases ho : ops[j].dst with
    | none => rw [ho] at hd; cases hd
    | some u =>
      rw [ho] at hd
      have hu : lk u sl = some p := hd
      have := hinj u tt p hu hl
      subst this
      simp [dstOf, Array.getElem?_eq_getElem hjs, ho]
  refine ⟨fun tt k hk => (by cases hk), fun tt p hl => ?_⟩
  rcases I.tm tt with ⟨j, h1, h2, h3, h4, h5⟩ | ⟨h1, h2⟩
  · obtain ⟨d, e1, _, _, e4, _⟩ := hC.ops j _ (Array.getElem?_eq_getElem h1)
    have hrc : rs[j]? = some (rs[j]'(by omega)) := List.getElem?_eq_getElem (by omega)
    have hd : d.d = some p := by
      have : ops[j].dst = some tt := by simpa [dstOf, Array.getElem?_eq_getElem h1] using h3
      rw [e4, this]; exact hl
    rw [(t.slot p).2.2 j d _ e1 hrc hd]
    · simpa [hrc] using h5
    · intro j' d' hjj hd' hp
      have hjs : j' < ops.size := by rw [← hC.len]; exact (List.getElem?_eq_some_iff.1 hd').1
      have := h4 j' (by simpa using hjs) (slotOf j' d' hd' p tt hl hp)
      omega
  · rw [(t.slot p).2.1, h2]
    · exact (r0.slot tt p hl).mono I.le
    · intro j d hj hd
      have hjs : j < ops.size := by rw [← hC.len]; exact (List.getElem?_eq_some_iff.1 hj).1
      exact h1 j (by simpa using hjs) (slotOf j d hj p tt hl hd)
end
end Go.Ab
namespace Go.Ab
open Go Go.RowKit
/-- how code ends -/
inductive Ek where
  | nx
  | ex (id : Nat)
  | rt
structure Out where
  k : Ek
  tm : T V
  h : H
def Out.app (o : Out) (nx : Nx) (ex : Nat → Nx) (rt : Nx) : R := match o.k with
  | .nx => nx o.tm o.h
  | .ex id => ex id o.tm o.h
  | .rt => rt o.tm o.h
def Ek.exit : Ek → Exit
  | .nx => .normal
  | .ex id => .exit id
  | .rt => .ret
/-- the concrete side: from such a state the code ends in such a one -/
def Wp (P : Program) (sl : List (Nat × Pa)) (N : Nat) (tm : T V) (h : H) (o : Out) (W : (Exit → Act → World → Prop) → Act → World → Prop) : Prop :=
  ∀ σ B w0 w act, Rl σ [] sl .e tm act → HR σ B w0 h w → act.defers = [] → N ≤ act.tmps.size → ∀ Q : Exit → Act → World → Prop,
    (∀ σ' act' w', Le σ σ' → Rl σ' [] sl .e o.tm act' → HR σ' B w0 o.h w' → act'.defers = [] → act'.tmps.size = act.tmps.size → Q o.k.exit act' w') → W Q act w
def CdOK (P : Program) (sl : List (Nat × Pa)) (N : Nat) (env : Env) (c : Code) (cd : Cd) : Prop :=
  ∀ n nx ex rt tm h ans, cd n env nx ex rt tm h = some ans → ∃ o : Out, (∀ nx' ex' rt', cd n env nx' ex' rt' tm h = o.app nx' ex' rt') ∧ o.app nx ex rt = some ans ∧ Wp P sl N tm h o (c.wp P)
section
variable {P : Program} {sl : List (Nat × Pa)} {N : Nat} {env : Env}
theorem cd_skip : CdOK P sl N env .skip cSkip := fun n nx ex rt tm h ans e =>
  ⟨⟨.nx, tm, h⟩, fun _ _ _ => rfl, e, fun σ B w0 w act r hr hd hN Q hQ => wp_skip (hQ σ act w (.refl _) r hr hd rfl)⟩
theorem cd_exit {id : Nat} : CdOK P sl N env (.exit id) (cExit id) := fun n nx ex rt tm h ans e =>
  ⟨⟨.ex id, tm, h⟩, fun _ _ _ => rfl, e, fun σ B w0 w act r hr hd hN Q hQ => wp_exit (hQ σ act w (.refl _) r hr hd rfl)⟩
theorem cd_ret : CdOK P sl N env .ret cRet := fun n nx ex rt tm h ans e =>
  ⟨⟨.rt, tm, h⟩, fun _ _ _ => rfl, e, fun σ B w0 w act r hr hd hN Q hQ => wp_ret (hQ σ act w (.refl _) r hr hd rfl)⟩
theorem cd_seq {a b : Code} {ca cb : Cd} (ha : CdOK P sl N env a ca) (hb : CdOK P sl N env b cb) : CdOK P sl N env (.seq a b) (cSeq ca cb) := by
  intro n nx ex rt tm h ans e
  obtain ⟨⟨k, tm1, h1⟩, a1, a2, a3⟩ := ha n (cb n env nx ex rt) ex rt tm h ans e
  have other : ∀ (hk : k ≠ .nx), ∃ o : Out, (∀ nx' ex' rt', cSeq ca cb n env nx' ex' rt' tm h = o.app nx' ex' rt') ∧ o.app nx ex rt = some ans ∧ Wp P sl N tm h o ((Code.seq a b).wp P) := by
    intro hk
    refine ⟨⟨k, tm1, h1⟩, fun nx' ex' rt' => ?_, ?_, fun σ B w0 w act r hr hd hN Q hQ => ?_⟩
    · refine (a1 (cb n env nx' ex' rt') ex' rt').trans ?_
      cases k with
      | nx => exact absurd rfl hk
      | _ => rfl
    · revert a2
      cases k with
      | nx => exact absurd rfl hk
      | _ => exact fun h => h
    · refine wp_seq (a3 σ B w0 w act r hr hd hN _ fun σ' act' w' h1 h2 h3 h4 h5 => ?_)
      have := hQ σ' act' w' h1 h2 h3 h4 h5
      cases k with
      | nx => exact absurd rfl hk
      | _ => exact this
  cases k with
  | nx =>
    obtain ⟨o, b1, b2, b3⟩ := hb n nx ex rt tm1 h1 ans a2
    refine ⟨o, fun nx' ex' rt' => (a1 (cb n env nx' ex' rt') ex' rt').trans (b1 _ _ _), b2, fun σ B w0 w act r hr hd hN Q hQ => ?_⟩
    refine wp_seq (a3 σ B w0 w act r hr hd hN _ fun σ' act' w' c1 c2 c3 c4 c5 => ?_)
    exact b3 σ' B w0 w' act' c2 c3 c4 (by omega) Q fun σ2 act2 w2 d1 d2 d3 d4 d5 => hQ σ2 act2 w2 (c1.trans d1) d2 d3 d4 (by omega)
  | ex id => exact other (by simp)
  | rt => exact other (by simp)
theorem cd_cond {x : Od} {ox : Operand} {a b : Code} {ca cb : Cd} (hx : OdOK [] sl x ox) (ha : CdOK P sl N env a ca) (hb : CdOK P sl N env b cb) : CdOK P sl N env (.cond ox a b) (cCond x ca cb) := by
  intro n nx ex rt tm h ans e
  obtain ⟨v, x1, e1⟩ := hx.reg _ _ _ _ e
  obtain ⟨t, rfl, e2⟩ := elB_inv e1
  have hun : ∀ nx' ex' rt', cCond x ca cb n env nx' ex' rt' tm h = (if t = true then ca else cb) n env nx' ex' rt' tm h := by
    intro nx' ex' rt'
    show x .e tm _ = _
    rw [x1]
    cases t <;> rfl
  have hsub : CdOK P sl N env (if t = true then a else b) (if t = true then ca else cb) := by cases t <;> simpa
  obtain ⟨o, c1, c2, c3⟩ := hsub n nx ex rt tm h ans ((hun nx ex rt).symm.trans e)
  refine ⟨o, fun nx' ex' rt' => (hun _ _ _).trans (c1 _ _ _), c2, fun σ B w0 w act r hr hd hN Q hQ => ?_⟩
  exact wp_cond (VRb (hx.val _ _ _ _ _ r x1)) (c3 σ B w0 w act r hr hd hN Q hQ)
theorem cd_block {id : Nat} {b : Code} {cb : Cd} (hb : CdOK P sl N env b cb) : CdOK P sl N env (.block id b) (cBlock id cb) := by
  intro n nx ex rt tm h ans e
  obtain ⟨⟨k, tm1, h1⟩, a1, a2, a3⟩ := hb n nx _ rt tm h ans e
  have other : ∀ (k' : Ek), (∀ nx' : Nx, ∀ ex' rt', (Out.mk k tm1 h1).app nx' (fun i tm h => Bool.rec (ex' i tm h) (nx' tm h) (Nat.beq i id)) rt' = (Out.mk k' tm1 h1).app nx' ex' rt') →
      (∀ Q act w, Q k'.exit act w → Exit.inBlock id Q k.exit act w) → ∃ o : Out, (∀ nx' ex' rt', cBlock id cb n env nx' ex' rt' tm h = o.app nx' ex' rt') ∧ o.app nx ex rt = some ans ∧ Wp P sl N tm h o ((Code.block id b).wp P) := by
    intro k' hk hq
    refine ⟨⟨k', tm1, h1⟩, fun nx' ex' rt' => (a1 _ _ _).trans (hk nx' ex' rt'), (hk nx ex rt).symm.trans a2, fun σ B w0 w act r hr hd hN Q hQ => ?_⟩
    exact wp_block (a3 σ B w0 w act r hr hd hN _ fun σ' act' w' c1 c2 c3 c4 c5 => hq Q act' w' (hQ σ' act' w' c1 c2 c3 c4 c5))
  cases k with
  | nx => exact other .nx (fun _ _ _ => rfl) (fun _ _ _ h => h)
  | rt => exact other .rt (fun _ _ _ => rfl) (fun _ _ _ h => h)
  | ex i =>
    cases hi : Nat.beq i id with
    | true =>
      have := beq_eq hi
      subst this
      refine other .nx (fun nx' ex' rt' => ?_) (fun Q act w h => ?_)
      · show (Bool.rec (ex' i tm1 h1) (nx' tm1 h1) (Nat.beq i i) : R) = _
        rw [hi]; rfl
      · show (if i = i then Q .normal act w else Q (.exit i) act w)
        rw [if_pos rfl]; exact h
    | false =>
      refine other (.ex i) (fun nx' ex' rt' => ?_) (fun Q act w h => ?_)
      · show (Bool.rec (ex' i tm1 h1) (nx' tm1 h1) (Nat.beq i id) : R) = _
        rw [hi]; rfl
      · show (if i = id then Q .normal act w else Q (.exit i) act w)
        rw [if_neg (beq_ne hi)]; exact h
/-- rounds of a loop -/
def loopW (P : Program) (c : Code) (Q : Exit → Act → World → Prop) (a : Act) (w : World) : Prop :=
  ∀ (b : Frame) (k : List Go.Item) (cs : List Frame), ∃ e a' w', Q e a' w' ∧ Arrives P (lone (b.at a (.code c :: .inLoop c :: k)) cs w) b k cs e a' w'
theorem wp_of_loopW {c : Code} {Q : Exit → Act → World → Prop} {a : Act} {w : World} (h : loopW P c Q a w) : (Code.loop c).wp P Q a w :=
  fun b k cs => let ⟨e, a', w', q, r⟩ := h b k cs; ⟨e, a', w', q, .of_steps (.one step_loop) r⟩
theorem loopW_round {c : Code} {Q : Exit → Act → World → Prop} {a : Act} {w : World} (h : c.wp P (Exit.then (fun a' w' => loopW P c Q a' w') Q) a w) : loopW P c Q a w := by
  intro b k cs
  obtain ⟨e, a₁, w₁, hq, harr⟩ := h b (.inLoop c :: k) cs
  cases e with
  | normal =>
    obtain ⟨e₂, a₂, w₂, hq₂, harr₂⟩ := hq b k cs
    exact ⟨e₂, a₂, w₂, hq₂, .of_steps (Steps.trans harr (.one step_inLoop)) harr₂⟩
  | exit id => exact ⟨_, a₁, w₁, hq, .pass (x := .inLoop c) rfl (fun _ _ => .inl (by simp)) harr⟩
  | goto l => exact ⟨_, a₁, w₁, hq, .pass (x := .inLoop c) rfl (fun _ _ => .inl (by simp)) harr⟩
  | ret => exact ⟨_, a₁, w₁, hq, .pass (x := .inLoop c) rfl (fun _ _ => .inl (by simp)) harr⟩
  | panic ch => exact ⟨_, a₁, w₁, hq, .pass (x := .inLoop c) rfl (fun _ _ => .inl (by simp)) harr⟩
  | outgrown => exact ⟨_, a₁, w₁, hq, .pass (x := .inLoop c) rfl (fun _ _ => .inl (by simp)) harr⟩
noncomputable def loopK (b : Cd) (n : Nat) (env : Env) (ex : Nat → Nx) (rt : Nx) (m : Nat) : Nx := Nat.rec (motive := fun _ => Nx) (fun _ _ => none) (fun _ ih tm h => b n env ih ex rt tm h) m
theorem cd_loop {c : Code} {cc : Cd} (hc : CdOK P sl N env c cc) : CdOK P sl N env (.loop c) (cLoop cc) := by
  have key : ∀ m n ex rt tm h ans, loopK cc n env ex rt m tm h = some ans → ∃ o : Out, (∀ ex' rt', ∀ nx' : Nx, loopK cc n env ex' rt' m tm h = o.app nx' ex' rt') ∧ (∀ nx, o.app nx ex rt = some ans) ∧ Wp P sl N tm h o (loopW P c) := by
    intro m
    induction m with
    | zero => intro n ex rt tm h ans e; cases e
    | succ m ih =>
      intro n ex rt tm h ans e
      obtain ⟨⟨k, tm1, h1⟩, a1, a2, a3⟩ := hc n (loopK cc n env ex rt m) ex rt tm h ans e
      have other : ∀ (hk : k ≠ .nx), ∃ o : Out, (∀ ex' rt', ∀ nx' : Nx, loopK cc n env ex' rt' (m + 1) tm h = o.app nx' ex' rt') ∧ (∀ nx, o.app nx ex rt = some ans) ∧ Wp P sl N tm h o (loopW P c) := by
        intro hk
        refine ⟨⟨k, tm1, h1⟩, fun ex' rt' nx' => ?_, fun nx => ?_, fun σ B w0 w act r hr hd hN Q hQ => ?_⟩
        · refine (a1 (loopK cc n env ex' rt' m) ex' rt').trans ?_
          cases k with
          | nx => exact absurd rfl hk
          | _ => rfl
        · revert a2
          cases k with
          | nx => exact absurd rfl hk
          | _ => exact fun h => h
        · refine loopW_round (a3 σ B w0 w act r hr hd hN _ fun σ' act' w' h1 h2 h3 h4 h5 => ?_)
          have := hQ σ' act' w' h1 h2 h3 h4 h5
          cases k with
          | nx => exact absurd rfl hk
          | _ => exact this
      cases k with
      | nx =>
        obtain ⟨o, b1, b2, b3⟩ := ih n ex rt tm1 h1 ans a2
        refine ⟨o, fun ex' rt' nx' => (a1 (loopK cc n env ex' rt' m) ex' rt').trans (b1 _ _ _), b2, fun σ B w0 w act r hr hd hN Q hQ => ?_⟩
        refine loopW_round (a3 σ B w0 w act r hr hd hN _ fun σ' act' w' c1 c2 c3 c4 c5 => ?_)
        exact b3 σ' B w0 w' act' c2 c3 c4 (by omega) Q fun σ2 act2 w2 d1 d2 d3 d4 d5 => hQ σ2 act2 w2 (c1.trans d1) d2 d3 d4 (by omega)
      | ex id => exact other (by simp)
      | rt => exact other (by simp)
  intro n nx ex rt tm h ans e
  obtain ⟨o, a1, a2, a3⟩ := key n n ex rt tm h ans e
  exact ⟨o, fun nx' ex' rt' => a1 ex' rt' nx', a2 nx, fun σ B w0 w act r hr hd hN Q hQ => wp_of_loopW (a3 σ B w0 w act r hr hd hN Q hQ)⟩
/-! regions -/
def bl (i j : Nat) : Bool := decide (j < i)
theorem phase_bl {ops : Array Oper} {wr : Nat → Bool} {i k : Nat} (hi : i < ops.size) (h : phase ops bl wr i k) : k = wc wr i := by
  obtain ⟨h1, h2, h3⟩ := h
  cases hw : wr i with
  | true => exact h1 hw
  | false =>
    have h3 := h3 hw
    -- the writers ahead are done, those behind are not
    have lo : ∀ m, m ≤ i → wc wr m ≤ k := by
      intro m
      induction m with
      | zero => intro _; exact Nat.zero_le _
      | succ m ih =>
        intro hm
        cases hwm : wr m with
        | false =>
          have : wc wr (m + 1) = wc wr m := by unfold wc; simp [cntN, hwm]
          rw [this]; exact ih (by omega)
        | true =>
          have e : wc wr (m + 1) = wc wr m + 1 := by unfold wc; simp [cntN, hwm]
          rcases Nat.lt_or_ge (wc wr m) k with h | h
          · omega
          · have := (h3 m (by omega) hwm).2 h
            simp [bl] at this; omega
    have hi' : ∀ d, i + d ≤ ops.size → wc wr (i + d) = wc wr i ∨ k ≤ wc wr i := by
      intro d
      induction d with
      | zero => intro _; exact .inl rfl
      | succ d ih =>
        intro hd
        rcases ih (by omega) with h | h
        · cases hwm : wr (i + d) with
          | false =>
            have : wc wr (i + d + 1) = wc wr (i + d) := by unfold wc; simp [cntN, hwm]
            exact .inl (by rw [← h, ← this]; rfl)
          | true =>
            have hne : d ≠ 0 := fun e => by subst e; rw [Nat.add_zero, hw] at hwm; cases hwm
            rcases Nat.lt_or_ge (wc wr (i + d)) k with h4 | h4
            · have := (h3 (i + d) (by omega) hwm).1 h4
              simp [bl] at this; omega
            · exact .inr (by omega)
        · exact .inr h
    have h5 := lo i (Nat.le_refl _)
    rcases hi' (ops.size - i) (by omega) with h6 | h6
    · rw [show i + (ops.size - i) = ops.size from by omega] at h6; omega
    · omega
theorem ord_bl {ops : Array Oper} {wr : Nat → Bool} {names : Nat → List Tmp} : Ord ops bl wr names := by
  refine ⟨fun i j h => by simpa [bl] using h, fun i j _ h _ _ => by simpa [bl] using h, fun i j t _ _ hne _ _ => ?_⟩
  rcases Nat.lt_or_ge j i with h | h
  · exact .inl (by simpa [bl] using h)
  · exact .inr (by simp [bl]; omega)
theorem inv_start {ops : Array Oper} {wr : Nat → Bool} {v : Nat → V} {hk : Nat → H} {act : Act} {σ : Sg} {B : Fr} {w0 w : World} {L : Nat → Bool} (hL : ∀ j, L j = false) (hr : HR σ B w0 (hk 0) w) (hd : act.defers = []) :
    Inv ops wr v hk act σ B w0 L act w σ := by
  have h0 : cntN wr L ops.size = 0 := by
    rw [cntN_none (wr := wr) (L := L) (Nat.zero_le ops.size) (fun j _ _ _ => hL j)]; rfl
  exact ⟨.refl _, by rw [h0]; exact hr, hd, rfl, fun t => .inr ⟨fun j hj => (by rw [hL j] at hj; cases hj), rfl⟩⟩
theorem inv_end {ops : Array Oper} {wr : Nat → Bool} {v : Nat → V} {hk : Nat → H} {act0 act : Act} {σ0 σ : Sg} {B : Fr} {w0 w : World} (I : Inv ops wr v hk act0 σ0 B w0 (fun j => decide (j < ops.size)) act w σ) : HR σ B w0 (hk (wc wr ops.size)) w := by
  have h0 : cntN wr (fun j => decide (j < ops.size)) ops.size = wc wr ops.size := cntN_all fun j hj _ => by simpa using hj
  rw [← h0]; exact I.hr
theorem cd_reg {ops : Array Oper} {id : Nat} {names : Nat → List Tmp} {l : List Dsc} {kd : Nat → Nat} (hC : Comp P ops bl names sl env l kd) (hinj : SlInj sl) (hdst : ∀ i t, dstOf ops i = some t → t < N) : CdOK P sl N env (.region id ops false) (cRegD l) := by
  intro n nx ex rt tm h ans e
  obtain ⟨rs, ρ', tm', h', hs', t, e1⟩ := tr_of_run (fun d hd => by
    obtain ⟨i, hi⟩ := List.mem_iff_getElem?.1 hd
    have his : i < ops.size := by rw [← hC.len]; exact (List.getElem?_eq_some_iff.1 hi).1
    obtain ⟨d', h1, _, h3, _⟩ := hC.ops i _ (Array.getElem?_eq_getElem his)
    rw [hi] at h1; cases h1
    exact h3.al.reg) e
  refine ⟨⟨.nx, tm', h'⟩, fun nx' ex' rt' => t.run _, e1, fun σ B w0 w act r hr hd hN Q hQ => ?_⟩
  have hK : CksOK P ops bl names sl env l kd [] := ⟨by simp, fun i o d ho _ _ k hph hne => absurd (phase_bl (Array.getElem?_eq_some_iff.1 ho).1 hph) hne⟩
  obtain ⟨D, q1, q2⟩ := dyn_of (wr0 := wOf l) ord_bl hC hinj t hK (by simp) r (fun i t h => Nat.lt_of_lt_of_le (hdst i t h) hN) B w0
  refine wp_region ?_
  rw [List.range_eq_range']
  refine inv_list (Q := Q) ord_bl D (fun i j => by simp [bl]) ops.size 0 (by omega) act w σ (inv_start (fun j => by simp) (by simp only [q2, Option.getD_some]; exact hr) hd) fun act' w' σ' I => ?_
  refine hQ σ' act' w' I.le (rl_end hC hinj t r I) ?_ I.df I.sz
  have := inv_end I
  have e2 : (h' :: hs').reverse[wc (wOf l) ops.size]? = some h' := by
    rw [← q1, rev_idx (by simp)]; simp
  simpa only [e2, Option.getD_some] using this
theorem cd_draw {ops : Array Oper} {id : Nat} {bf : Nat → Nat → Bool} {names : Nat → List Tmp} {l : List Dsc} {kd : Nat → Nat} {cks : List Ck} (hm : P.follows .mixedOrders = true) (hO : Ord ops bf (wOf l) names)
    (hC : Comp P ops bf names sl env l kd) (hK : CksOK P ops bf names sl env l kd cks) (hinj : SlInj sl) (hdst : ∀ i t, dstOf ops i = some t → t < N)
    (hE : ∀ i o, ops[i]? = some o → ∀ e ∈ o.after, Region.binds .any e = true → e.on < i)
    (hM : ∀ L : Nat → Bool, (∀ a oa, ops[a]? = some oa → L a = true → ∀ e ∈ oa.after, Region.binds .any e = true → L e.on = true) → ∀ i o, ops[i]? = some o → (∀ e ∈ o.after, Region.binds .any e = true → L e.on = true) → ∀ j, bf i j = true → L j = true) :
    CdOK P sl N env (.region id ops true) (cDraw l cks) := by
  intro n nx ex rt tm h ans e
  obtain ⟨rs, ρ', tm', h', hs', t, e1⟩ := tr_of_run (fun d hd => by
    obtain ⟨i, hi⟩ := List.mem_iff_getElem?.1 hd
    have his : i < ops.size := by rw [← hC.len]; exact (List.getElem?_eq_some_iff.1 hi).1
    obtain ⟨d', h1, _, h3, _⟩ := hC.ops i _ (Array.getElem?_eq_getElem his)
    rw [hi] at h1; cases h1
    exact h3.al.reg) e
  obtain ⟨e2, e3, e4⟩ := runCk_inv hK.1 e1
  refine ⟨⟨.nx, tm', h'⟩, fun nx' ex' rt' => (t.run _).trans (e3 _), e2, fun σ B w0 w act r hr hd hN Q hQ => ?_⟩
  obtain ⟨D, q1, q2⟩ := dyn_of hO hC hinj t hK e4 r (fun i t h => Nat.lt_of_lt_of_le (hdst i t h) hN) B w0
  refine wp_region_any hm ?_
  refine inv_any (Q := Q) hO D hE hM (fun act' w' σ' I => ?_) ops.size (Array.replicate ops.size false) act _ σ (by simp) (Nat.le_add_right _ _) (fun a oa ha hf => ?_) (inv_start (fun j => ?_) (by simp only [q2, Option.getD_some]; exact hr.drew) hd)
  · refine hQ σ' act' w' I.le (rl_end hC hinj t r I) ?_ I.df I.sz
    have := inv_end I
    have e5 : (h' :: hs').reverse[wc (wOf l) ops.size]? = some h' := by
      rw [← q1, rev_idx (by simp)]; simp
    simpa only [e5, Option.getD_some] using this
  · exfalso
    rw [Array.getD_eq_getD_getElem?, Array.getElem?_replicate] at hf
    split at hf <;> cases hf
  · rw [Array.getD_eq_getD_getElem?, Array.getElem?_replicate]
    split <;> rfl
end
end Go.Ab
namespace Go.Ab
open Go Go.RowKit
section
variable {P : Program} {sl : List (Nat × Pa)} {N : Nat} {env : Env}
/-! arguments -/
theorem putArgs_inv : ∀ {pa : List Pa} {vs : V} {tm : T V} {k : T V → R} {a}, putArgs pa vs tm k = some a → ∃ tm', (∀ k', putArgs pa vs tm k' = k' tm') ∧ k tm' = some a ∧
    ∃ l, unL vs = some l ∧ l.length = pa.length ∧ (∀ p, p ∉ pa → gt undefV p tm' = gt undefV p tm) ∧ (pa.Nodup → ∀ (i : Nat) (p : Pa) v, pa[i]? = some p → l[i]? = some v → gt undefV p tm' = v)
  | [], vs, tm, k, a, h => by
    rcases elC_inv (v := vs) h with ⟨rfl, h1⟩ | ⟨x, r, rfl, h1⟩
    · exact ⟨tm, fun _ => rfl, h1, [], rfl, rfl, fun _ _ => rfl, fun _ i p v hp => by simp at hp⟩
    · cases h1
  | p :: pa, vs, tm, k, a, h => by
    rcases elC_inv (v := vs) h with ⟨rfl, h1⟩ | ⟨x, r, rfl, h1⟩
    · cases h1
    · have h2 : setK undefV p x tm (fun tm => putArgs pa r tm k) = some a := h1
      rw [setK_eq] at h2
      obtain ⟨tm', a1, a2, l, a3, a4, a5, a6⟩ := putArgs_inv h2
      refine ⟨tm', fun k' => ?_, a2, x :: l, ?_, by simp [a4], fun q hq => ?_, fun hn i q v hq hv => ?_⟩
      · show setK undefV p x tm (fun tm => putArgs pa r tm k') = _
        rw [setK_eq]; exact a1 _
      · simp [unL, a3]
      · simp only [List.mem_cons, not_or] at hq
        rw [a5 q hq.2]; exact gt_st_ne _ _ _ _ _ (fun e => hq.1 e.symm)
      · rw [List.nodup_cons] at hn
        cases i with
        | zero =>
          simp at hq hv; subst hq; subst hv
          rw [a5 p hn.1]; exact gt_st_same _ _ _ _
        | succ i => exact a6 hn.2 i q v (by simpa using hq) (by simpa using hv)
/-! results -/
def rd (tmps : Array Value) (r : ResultVar) : Sem Value := match r with
  | .tmp t => pure (tmps.getD t undef)
  | .cell a t => do loadVar t (← asAddr (tmps.getD a undef))
def RvOK (P : Program) (sl : List (Nat × Pa)) (x : Rv) (r : ResultVar) : Prop :=
  ∀ tm h k ans, x tm h k = some ans → ∃ v, (∀ k', x tm h k' = k' v) ∧ k v = some ans ∧ ∀ σ B w0 w act, Rl σ [] sl .e tm act → HR σ B w0 h w → ∃ cv, (rd act.tmps r).run P w = .ok cv w ∧ VR σ v cv
theorem rv_tmp {t : Tmp} {p : Pa} (h : lk t sl = some p) : RvOK P sl (vT p) (.tmp t) := fun tm hp k ans e =>
  ⟨_, fun _ => getK_eq _ _ _ _, (getK_eq undefV p tm k).symm.trans e, fun σ B w0 w act r _ => ⟨_, rfl, r.slot t p h⟩⟩
theorem rv_cell {a : Tmp} {t : TypeId} {p : Pa} {d : TypeDesc} (h : lk a sl = some p) (hd : P.underlying t = some d) (ha : aggD d = false) : RvOK P sl (vC p) (.cell a t) := by
  intro tm hp k ans e
  have e0 : getK undefV p tm (fun v => elP v fun b o => obK hp b fun ob => asCells ob fun m t _ => Bool.rec none (getNK undefV t o k) (Nat.blt o m)) = some ans := e
  rw [getK_eq] at e0
  obtain ⟨b, o, hv, e1⟩ := elP_inv e0
  rw [obK_eq] at e1
  obtain ⟨q, tr, ow, hob, e2⟩ := asCells_inv e1
  obtain ⟨hlt, e3⟩ := boolT (x := Nat.blt o q) e2
  rw [getNK_eq] at e3
  refine ⟨gtN undefV tr o, fun k' => ?_, e3, fun σ B w0 w act r hr => ?_⟩
  · show getK undefV p tm _ = _
    rw [getK_eq, hv]
    show obK hp b _ = _
    rw [obK_eq, hob]
    show (Bool.rec none _ (Nat.blt o q) : R) = _
    rw [hlt]
    exact getNK_eq _ _ _ _
  · have hz := r.slot a p h
    rw [hv] at hz
    obtain ⟨loc, hloc, hz⟩ := VRp hz
    obtain ⟨v, h1, h2, h3⟩ := (hr.cells hob hloc).2 o (blt_lt hlt)
    refine ⟨v, ?_, h2⟩
    have hl : (load ⟨loc.blk, loc.base + o, none⟩).run P w = .ok v w := by simp [load, Sem.run, h1]
    simp only [rd, hz, asAddr, Sem.run_bind, Sem.run_pure, Result.andThen_ok, loadVar, run_isAgg hd, ha, Bool.false_eq_true, if_false, hl]
theorem rv_cellN {a : Tmp} {t : TypeId} {p : Pa} {d : TypeDesc} (h : lk a sl = some p) (hd : P.underlying t = some d) (ha : aggD d = true) (hk : known P t = true) : RvOK P sl (vN p (sizeD P t)) (.cell a t) := by
  intro tm hp k ans e
  have e0 : getK undefV p tm (fun v => elP v fun b o => readK hp b o (sizeD P t) fun c => k (.ag (sizeD P t) c)) = some ans := e
  rw [getK_eq] at e0
  obtain ⟨b, o, hv, e1⟩ := elP_inv e0
  obtain ⟨l, r1, e3, q, tr, ow, hob, hle, hl⟩ := readK_inv e1
  refine ⟨.ag (sizeD P t) l, fun k' => ?_, e3, fun σ B w0 w act r hr => ?_⟩
  · show getK undefV p tm _ = _
    rw [getK_eq, hv]
    exact r1 _
  · have hz := r.slot a p h
    rw [hv] at hz
    obtain ⟨loc, hloc, hz⟩ := VRp hz
    obtain ⟨f, f1, f2, f3⟩ := readK_mem hr hob hle hl hloc
    refine ⟨.agg ((List.range (sizeD P t)).map f).toArray, ?_, .ag _ _ _ f2 (by simp) f3⟩
    simp only [rd, hz, asAddr, loadVar, Sem.run_bind, Sem.run_pure, Result.andThen_ok, run_isAgg hd, ha, if_true, run_sizeD hk, loadCells_run w _ _ f _ f1]
/-- several results -/
inductive RvsOK (P : Program) (sl : List (Nat × Pa)) : List Rv → List ResultVar → Prop
  | nil : RvsOK P sl [] []
  | cons {x r l rs} : RvOK P sl x r → RvsOK P sl l rs → RvsOK P sl (x :: l) (r :: rs)
theorem resL_inv {l : List Rv} {rs : List ResultVar} (HH : RvsOK P sl l rs) {tm : T V} {h : H} {k : V → R} {a} (e : resL l tm h k = some a) : ∃ v, (∀ k', resL l tm h k' = k' v) ∧ k v = some a ∧
    ∀ σ B w0 w act, Rl σ [] sl .e tm act → HR σ B w0 h w → ∃ cs : List Value, (rs.mapM (m := Sem) (rd act.tmps)).run P w = .ok cs w ∧ VL σ v cs ∧ cs.length = rs.length := by
  induction HH generalizing k with
  | nil => exact ⟨.e, fun _ => rfl, e, fun _ _ _ _ _ _ _ => ⟨[], rfl, .e, rfl⟩⟩
  | cons hx _ ih =>
    obtain ⟨v, x1, e1, x2⟩ := hx _ _ _ _ e
    obtain ⟨u, u1, e2, u2⟩ := ih (k := fun l => k (.c v l)) e1
    refine ⟨.c v u, fun k' => (x1 _).trans (u1 (fun l => k' (.c v l))), e2, fun σ B w0 w act r hr => ?_⟩
    obtain ⟨cv, c1, c2⟩ := x2 σ B w0 w act r hr
    obtain ⟨cs, c3, c4, c5⟩ := u2 σ B w0 w act r hr
    refine ⟨cv :: cs, ?_, .c _ _ _ _ c2 c4, by simp [c5]⟩
    rw [List.mapM_cons]
    simp only [Sem.run_bind, c1, c3, Result.andThen_ok, Sem.run_pure]
/-- what a function answers -/
def ResOK (P : Program) (sl : List (Nat × Pa)) (res : K → Nx) (fn : Func) : Prop :=
  ∀ k tm h ans, res k tm h = some ans → ∃ v, (∀ k', res k' tm h = k' v h) ∧ k v h = some ans ∧ ∀ σ B w0 w act, Rl σ [] sl .e tm act → HR σ B w0 h w → ∃ cv, (results fn act.tmps).run P w = .ok cv w ∧ VR σ v cv
theorem results_run {fn : Func} {tmps : Array Value} {w : World} {cs : List Value} (h : (fn.results.toList.mapM (m := Sem) (rd tmps)).run P w = .ok cs w) :
    (results fn tmps).run P w = .ok (if h : cs.toArray.size = 1 then cs.toArray[0] else .tuple cs.toArray) w := by
  have e : results fn tmps = (do let vs ← fn.results.mapM (rd tmps); pure (if h : vs.size = 1 then vs[0] else .tuple vs)) := by
    unfold results
    congr 1
  rw [e, Array.mapM_eq_mapM_toList]
  simp only [Sem.run_bind, Sem.run_map, h, Result.andThen_ok, Sem.run_pure]
theorem res_1 {x : Rv} {r : ResultVar} {fn : Func} (hr : fn.results.toList = [r]) (hx : RvOK P sl x r) : ResOK P sl (res1 x) fn := by
  intro k tm h ans e
  obtain ⟨v, x1, e1, x2⟩ := hx tm h _ ans e
  refine ⟨v, fun k' => x1 _, e1, fun σ B w0 w act rl hh => ?_⟩
  obtain ⟨cv, c1, c2⟩ := x2 σ B w0 w act rl hh
  refine ⟨cv, ?_, c2⟩
  have := results_run (P := P) (fn := fn) (tmps := act.tmps) (w := w) (cs := [cv]) (by rw [hr, List.mapM_cons]; simp only [Sem.run_bind, c1, Result.andThen_ok, List.mapM_nil, Sem.run_pure])
  simpa using this
theorem res_n {l : List Rv} {fn : Func} (hr : fn.results.toList.length ≠ 1) (hx : RvsOK P sl l fn.results.toList) : ResOK P sl (resN l) fn := by
  intro k tm h ans e
  obtain ⟨v, x1, e1, x2⟩ := resL_inv hx e
  refine ⟨.tu v, fun k' => x1 _, e1, fun σ B w0 w act rl hh => ?_⟩
  obtain ⟨cs, c1, c2, hlen⟩ := x2 σ B w0 w act rl hh
  refine ⟨.tuple cs.toArray, ?_, .tu _ _ c2⟩
  rw [results_run c1]
  rw [dif_neg (by simpa using fun e => hr (hlen ▸ e))]
/-! functions -/
def FuOK (P : Program) (f : FuncId) (fu : Fu) : Prop := ∀ n env, EnvOK P env → ∀ args h k ans, fu n env args h k = some ans → ∃ v h', (∀ k', fu n env args h k' = k' v h') ∧ k v h' = some ans ∧ entOK P f ∧
  ∀ σ B w0 w cargs, VL σ args cargs → HR σ B w0 h w → Calls P f cargs.toArray w fun e w' => ∃ cv σ', e = .returned cv ∧ Le σ σ' ∧ VR σ' v cv ∧ HR σ' B w0 h' w'
theorem fu_no {f : FuncId} : FuOK P f fuNo := fun n env he args h k ans e => by cases e
theorem ent_of {f : FuncId} {fn : Func} {c : Code} (hf : P.funcs[f]? = some fn) (hn : (fn.name == "runtime.NumGoroutine") = false) (hb : fn.body = some c) : entOK P f := by
  intro args w
  have hn' : fn.name ≠ "runtime.NumGoroutine" := by simpa using hn
  simp [callFunc, hf, hn', hb]
theorem fu_ok {f : FuncId} {fn : Func} {c : Code} {sl : List (Nat × Pa)} {pa : List Pa} {res : K → Nx} {body : Cd} {en : T V} (hf : P.funcs[f]? = some fn) (hn : (fn.name == "runtime.NumGoroutine") = false) (hb : fn.body = some c)
    (hen : ∀ p, gt undefV p en = undefV) (hpa : ∀ (i : Nat) (p : Pa), pa[i]? = some p → lk i sl = some p) (hnd : pa.Nodup) (hinj : SlInj sl) (hres : ResOK P sl res fn)
    (hbody : ∀ env, EnvOK P env → CdOK P sl fn.ntmps env c body) : FuOK P f (fuOf en pa res body) := by
  intro n env he args h k ans e
  obtain ⟨tm, p1, e1, l, p2, p3, p4, p5⟩ := putArgs_inv e
  obtain ⟨⟨ko, tm1, h1⟩, b1, e2, b2⟩ := hbody env he n (res k) fail3 (res k) tm h ans e1
  have fin : ∀ (hk : ko = .nx ∨ ko = .rt), ∃ v h', (∀ k', fuOf en pa res body n env args h k' = k' v h') ∧ k v h' = some ans ∧ entOK P f ∧
      ∀ σ B w0 w cargs, VL σ args cargs → HR σ B w0 h w → Calls P f cargs.toArray w fun e w' => ∃ cv σ', e = .returned cv ∧ Le σ σ' ∧ VR σ' v cv ∧ HR σ' B w0 h' w' := by
    intro hk
    have happ : ∀ k', (Out.mk ko tm1 h1).app (res k') fail3 (res k') = res k' tm1 h1 := by
      intro k'; rcases hk with rfl | rfl <;> rfl
    rw [happ] at e2
    obtain ⟨v, r1, e3, r2⟩ := hres k tm1 h1 ans e2
    refine ⟨v, h1, fun k' => ?_, e3, ent_of hf hn hb, fun σ B w0 w cargs hv hr => ?_⟩
    · show putArgs pa args en _ = _
      rw [p1]
      show body n env (res k') fail3 (res k') tm h = _
      rw [b1, happ]; exact r1 k'
    · obtain ⟨hl1, hl2⟩ := VL_det hv p2
      refine calls_of_wp hf hb (b2 σ B w0 w _ ⟨fun t kk hkk => (by cases hkk), fun t p hl => ?_⟩ hr rfl ?_ _ fun σ' act' w' c1 c2 c3 c4 c5 => ?_)
      · show VR σ (gt undefV p tm) ((cargs.toArray ++ Array.replicate (fn.ntmps - cargs.toArray.size) undef).getD t undef)
        by_cases ht : t < cargs.length
        · have htp : t < pa.length := by omega
          have h6 : pa[t]? = some pa[t] := List.getElem?_eq_getElem htp
          have h7 := hpa t _ h6
          rw [hl] at h7
          have h8 : l[t]? = some (l[t]'(by omega)) := List.getElem?_eq_getElem (by omega)
          have h9 : cargs[t]? = some (cargs[t]'ht) := List.getElem?_eq_getElem ht
          have h10 := p5 hnd t p _ (by rw [h6]; exact congrArg some (by injection h7 with h7; exact h7.symm)) h8
          rw [h10]
          have : (cargs.toArray ++ Array.replicate (fn.ntmps - cargs.toArray.size) undef).getD t undef = cargs[t]'ht := by
            rw [Array.getD_eq_getD_getElem?, Array.getElem?_append_left (by simpa using ht)]
            simp [ht]
          rw [this]
          exact hl2 t _ _ h8 h9
        · have hp : p ∉ pa := by
            intro hp
            obtain ⟨i, hi⟩ := List.mem_iff_getElem?.1 hp
            have h6 := hpa i p hi
            have := hinj t i p hl h6
            subst this
            have := (List.getElem?_eq_some_iff.1 hi).1
            omega
          rw [p4 p hp, hen p]
          have : (cargs.toArray ++ Array.replicate (fn.ntmps - cargs.toArray.size) undef).getD t undef = undef := by
            rw [Array.getD_eq_getD_getElem?, Array.getElem?_append_right (by simp; omega), Array.getElem?_replicate]
            split <;> rfl
          rw [this]; exact .undef _
      · show fn.ntmps ≤ (cargs.toArray ++ Array.replicate (fn.ntmps - cargs.toArray.size) undef).size
        simp; omega
      · have key : act'.defers = [] ∧ ∃ v', (results fn act'.tmps).run P w' = .ok v' w' ∧ (fun e w' => ∃ cv σ', e = Ending.returned cv ∧ Le σ σ' ∧ VR σ' v cv ∧ HR σ' B w0 h1 w') (.returned v') w' := by
          obtain ⟨cv, d1, d2⟩ := r2 σ' B w0 w' act' c2 c3
          exact ⟨c4, cv, d1, cv, σ', rfl, c1, d2, c3⟩
        rcases hk with rfl | rfl
        · exact key
        · exact key
  cases ko with
  | nx => exact fin (.inl rfl)
  | rt => exact fin (.inr rfl)
  | ex id => cases e2
/-- a table of functions -/
def AllT (Q : Nat → Fu → Prop) (φ : Nat → Nat) : T Fu → Prop
  | .e => True
  | .n l x r => Q (φ 0) x ∧ AllT Q (fun m => φ (2 * m + 1)) l ∧ AllT Q (fun m => φ (2 * m + 2)) r
theorem allT_at {Q : Nat → Fu → Prop} (h0 : ∀ i, Q i fuNo) : ∀ {t : T Fu} {φ : Nat → Nat}, AllT Q φ t → ∀ k, Q (φ k) (gtN fuNo t k)
  | .e, φ, _, k => h0 _
  | .n l x r, φ, ⟨h1, h2, h3⟩, k => by
    cases k with
    | zero => exact h1
    | succ m =>
      show Q (φ (m + 1)) (Nat.rec (motive := fun _ => Fu) (gtN fuNo l (Nat.div m 2)) (fun _ _ => gtN fuNo r (Nat.div m 2)) (Nat.mod m 2))
      have e1 : Nat.div m 2 = m / 2 := rfl
      have e2 : Nat.mod m 2 = m % 2 := rfl
      rw [e1, e2]
      cases hm : m % 2 with
      | zero =>
        have := allT_at h0 h2 (m / 2)
        rw [show 2 * (m / 2) + 1 = m + 1 from by omega] at this
        exact this
      | succ q =>
        have := allT_at h0 h3 (m / 2)
        rw [show 2 * (m / 2) + 2 = m + 1 from by omega] at this
        exact this
theorem env_ok {F : T Fu} (hF : AllT (FuOK P) id F) : ∀ n, EnvOK P (envN F n)
  | 0 => fun f args h k ans e => by cases e
  | n + 1 => by
    intro f args h k ans e
    have e1 : getNK fuNo F f (fun fu => fu n (envN F n) args h k) = some ans := e
    rw [getNK_eq] at e1
    obtain ⟨v, h', a1, a2, a3, a4⟩ := allT_at (fun i => fu_no) hF f n (envN F n) (env_ok hF n) args h k ans e1
    refine ⟨v, h', fun k' => ?_, a2, a3, a4⟩
    show getNK fuNo F f (fun fu => fu n (envN F n) args h k') = _
    rw [getNK_eq]; exact a1 k'
end
end Go.Ab
namespace Go.Ab
open Go Go.RowKit
section
variable {P : Program} {m : List (Option Nat)} {sl : List (Nat × Pa)}
theorem p_build_array {t n el i zv z l ps} (ht : P.underlying t = some (.array n el)) (hi : known P el = true) (hz : zeroOf P t = some zv) (hc : cVL zv.cells.toList = some z)
    (hp : PtsOK m sl (fun j => some (j * sizeD P el, sizeD P el)) l (Array.toList ps)) (hi' : i = zv.cells.size) : POK P m sl (aBuild i z l) (.build t ps) := by
  subst hi'
  intro env ρ tm h k ans e
  obtain ⟨z', h1, e1, h2⟩ := fillK_inv hp e
  refine ⟨.ag zv.cells.size z', fun env' h' k' => h1 _, e1, fun σ act r o' ho => ?_⟩
  obtain ⟨q1, q2⟩ := cVL_ok hc σ
  obtain ⟨cs', f1, f2, f3, f4⟩ := h2 σ act r zv.cells q1 q2
  refine ⟨.agg cs', fun w => ?_, ?_⟩
  · obtain ⟨d, op', ty, pos, af, gd⟩ := o'
    subst ho
    have e2 : (ps.map fun (p : Nat × Operand) => (p.1, act.eval p.2)).toList = ps.toList.map fun p => (p.1, act.eval p.2) := by simp
    simp only [execOp, Instr.build, Sem.run_bind, run_zero hz, Result.andThen_ok, run_und ht, run_sizeD hi, e2, f1, Sem.run_pure]
  · have := VR.ag zv.cells.size z' cs'.toList f2 (by simpa using f3) f4
    simpa using this
/-! operations, compiled -/
noncomputable section
abbrev OA := Option (Nat × Ac)
def cOds (m : List (Option Nat)) (sl : List (Nat × Pa)) : List Operand → Option (List Od)
  | [] => some []
  | o :: r => (cOd m sl o).bind fun x => (cOds m sl r).bind fun l => some (x :: l)
def cBd (m : List (Option Nat)) (sl : List (Nat × Pa)) : Option Operand → Option Bd
  | none => some bN
  | some o => (cOd m sl o).bind fun x => some (bS x)
def cKey (d : TypeDesc) : Option Cmp := match d with
  | .int _ => some qInt
  | .string => some qStr
  | .bool => some qBool
  | _ => none
def cPts (m : List (Option Nat)) (sl : List (Nat × Pa)) (f : Nat → Option (Nat × Nat)) : List (Nat × Operand) → Option (List Pt)
  | [] => some []
  | p :: r => (f p.1).bind fun q => (cOd m sl p.2).bind fun x => (cPts m sl f r).bind fun l => some (⟨q.1, q.2, x⟩ :: l)
def cBinI (op : BinOp) (x y : Od) : Option Ac := match op with
  | .add => some (aIadd x y)
  | .sub => some (aIsub x y)
  | .mul => some (aImul x y)
  | .quo => some (aIquo x y)
  | .rem => some (aIrem x y)
  | .and => some (aIbits bAnd x y)
  | .or => some (aIbits bOr x y)
  | .xor => some (aIbits bXor x y)
  | .shl => some (aIshl x y)
  | .shr => some (aIshr x y)
  | .eql => some (aIcmp cEq x y)
  | .neq => some (aIcmp cNe x y)
  | .lss => some (aIcmp cLt x y)
  | .leq => some (aIcmp cLe x y)
  | .gtr => some (aIcmp cGt x y)
  | .geq => some (aIcmp cGe x y)
  | _ => none
def cBinS (op : BinOp) (x y : Od) : Option Ac := match op with
  | .add => some (aSadd x y)
  | .eql => some (aScmp sEq x y)
  | .neq => some (aScmp sNe x y)
  | .lss => some (aScmp sLt x y)
  | .leq => some (aScmp sLe x y)
  | .gtr => some (aScmp sGt x y)
  | .geq => some (aScmp sGe x y)
  | _ => none
def cBinB (op : BinOp) (x y : Od) : Option Ac := match op with
  | .eql => some (aEq qBool x y)
  | .neq => some (aNe qBool x y)
  | _ => none
def cBin (P : Program) (t : TypeId) (op : BinOp) (x y : Od) : Option Ac := match P.underlying t with
  | some (.int _) => cBinI op x y
  | some .string => cBinS op x y
  | some .bool => cBinB op x y
  | _ => none
def cUn (op : UnOp) (x : Od) : Option Ac := match op with
  | .not => some (aNot x)
  | .neg => some (aNeg x)
  | .xor => some (aInot x)
  | _ => none
def cField (P : Program) (t : TypeId) (f : Nat) (x : Od) : Option Ac := match P.underlying t with
  | some (.struct fs) => (fs[f]?).bind fun fd => (P.underlying fd.type).bind fun d => if aggD d then (if known P fd.type then some (aFieldN fd.offset (sizeD P fd.type) x) else none) else some (aField fd.offset x)
  | _ => none
def cFaddr (P : Program) (t : TypeId) (f : Nat) (x : Od) : Option Ac := match P.underlying t with
  | some (.struct fs) => (fs[f]?).bind fun fd => (P.info? fd.type).bind fun i => if Nat.beq i.size 0 then none else some (aFaddr fd.offset x)
  | _ => none
def cIaddr (P : Program) (t : TypeId) (x y : Od) : Option Ac := match P.underlying t with
  | some (.slice el) => (P.info? el).bind fun i => some (aIaddr i.size x y)
  | _ => none
def cIndex (P : Program) (t : TypeId) (x y : Od) : Option Ac := match P.underlying t with
  | some .string => some (aSidx x y)
  | some (.array n el) => (P.underlying el).bind fun d => if aggD d then none else if known P el then some (aAidx n (sizeD P el) x y) else none
  | _ => none
def cSlice (P : Program) (t : TypeId) (x : Od) (lo hi : Bd) : Option Ac := match P.underlying t with
  | some .string => some (aSlstr x lo hi)
  | some (.slice el) => (P.info? el).bind fun i => some (aSlsl i.size x lo hi)
  | _ => none
def isU8 (P : Program) (t : TypeId) : Bool := match P.underlying t with
  | some (.int .u8) => true
  | _ => false
def cConv (P : Program) (s d : TypeId) (x : Od) : OA := match P.underlying s, P.underlying d with
  | some (.int _), some (.int kd) => some (0, aCint kd x)
  | some (.slice el), some .string => if isU8 P el then some (1, aB2s x) else none
  | _, _ => none
def cLoad (P : Program) (t : TypeId) (x : Od) : Option Ac := (P.underlying t).bind fun d => if aggD d then (if known P t then some (aLoadN (sizeD P t) x) else none) else some (aLoad x)
def cStore (P : Program) (t : TypeId) (x y : Od) : Option Ac := (P.underlying t).bind fun d => if known P t then (if aggD d then some (aStoreN (sizeD P t) x y) else if Nat.beq (sizeD P t) 1 then some (aStore x y) else none) else none
def cAlloc (P : Program) (t : TypeId) : Option Ac := (zeroOf P t).bind fun zv => (cVL zv.cells.toList).bind fun z => some (aAlloc z)
def allF (P : Program) : List Field → Bool
  | [] => true
  | f :: r => known P f.type && allF P r
def cBuild (P : Program) (m : List (Option Nat)) (sl : List (Nat × Pa)) (t : TypeId) (ps : Array (Nat × Operand)) : Option Ac := match P.underlying t with
  | some (.struct fs) => if allF P fs.toList then (zeroOf P t).bind fun zv => (cVL zv.cells.toList).bind fun z => (cPts m sl ((fs.map fun f => (f.offset, sizeD P f.type))[·]?) ps.toList).bind fun l => some (aBuild zv.cells.size z l) else none
  | some (.array _ el) => if known P el then (zeroOf P t).bind fun zv => (cVL zv.cells.toList).bind fun z => (cPts m sl (fun j => some (j * sizeD P el, sizeD P el)) ps.toList).bind fun l => some (aBuild zv.cells.size z l) else none
  | _ => none
def cBslice (P : Program) (m : List (Option Nat)) (sl : List (Nat × Pa)) (t : TypeId) (len : Nat) (ps : Array (Nat × Operand)) : Option Ac := match P.underlying t with
  | some (.slice el) => if known P el then if Nat.ble (len * sizeD P el) 16777216 then (if len * sizeD P el = 0 then some #[] else (zeroOf P el).map (·.cells)).bind fun zc =>
      (cVL ((Array.range (len * sizeD P el)).map (zc[· % zc.size]!)).toList).bind fun z => (cPts m sl (fun i => some (i * sizeD P el, sizeD P el)) ps.toList).bind fun l => some (aBslice len (sizeD P el) z l) else none else none
  | _ => none
def cLookup (P : Program) (t : TypeId) (ok : Bool) (x y : Od) : Option Ac := match P.underlying t with
  | some (.map kt et) => (P.underlying kt).bind fun d => (cKey d).bind fun q => (zeroOf P et).bind fun zv => (cV zv).bind fun z => some (if ok then aLookup2 q z x y else aLookup q z x y)
  | _ => none
def cMupd (P : Program) (t : TypeId) (x y v : Od) : Option Ac := match P.underlying t with
  | some (.map kt _) => (P.underlying kt).bind fun d => (cKey d).bind fun q => some (aMupd q x y v)
  | _ => none
def cLen (P : Program) (t : TypeId) (x : Od) : OA := match P.underlying t with
  | some .string => some (0, aLenS x)
  | some (.slice _) => some (0, aLenL x)
  | some (.map _ _) => some (1, aLenM x)
  | _ => none
def cAppend (P : Program) (t tx : TypeId) (x y : Od) : Option Ac := match P.underlying t with
  | some (.slice el) => (P.info? el).bind fun i => i.zero.bind fun z => if Nat.beq z.cells.size i.size && Nat.ble i.bytes 65536 then (match P.underlying tx with
    | some (.slice _) => some (aAppend i.size x y)
    | some .string => if Nat.beq i.size 1 then some (aAppendS x y) else none
    | _ => none) else none
  | _ => none
def isStr (P : Program) (t : TypeId) : Bool := match P.underlying t with
  | some .string => true
  | _ => false
def two (l : List Od) : Option (Od × Od) := match l with
  | [x, y] => some (x, y)
  | _ => none
def one (l : List Od) : Option Od := match l with
  | [x] => some x
  | _ => none
def cCall (P : Program) (m : List (Option Nat)) (sl : List (Nat × Pa)) (c : Call) : OA := match c with
  | ⟨.builtin .len, ⟨[o]⟩, ⟨[t]⟩⟩ => (cOd m sl o).bind fun x => cLen P t x
  | ⟨.builtin .append, ⟨[o, o']⟩, ⟨[t, tx]⟩⟩ => (cOd m sl o).bind fun x => (cOd m sl o').bind fun y => (cAppend P t tx x y).bind fun a => some (2, a)
  | ⟨.value (.func f), os, _⟩ => (cOds m sl os.toList).bind fun l => some (2, aCall f l)
  | ⟨.value g, os, _⟩ => (cOd m sl g).bind fun x => (cOds m sl os.toList).bind fun l => some (2, aCallv x l)
  | _ => none
def k0 (o : Option Ac) : OA := o.bind fun a => some (0, a)
def k1 (o : Option Ac) : OA := o.bind fun a => some (1, a)
def k2 (o : Option Ac) : OA := o.bind fun a => some (2, a)
def cOp (P : Program) (m : List (Option Nat)) (sl : List (Nat × Pa)) (op : Go.Op) : OA := match op with
  | .move o => (cOd m sl o).bind fun x => some (0, aMv x)
  | .assign o => (cOd m sl o).bind fun x => some (0, aMv x)
  | .pick c a b => (cOd m sl c).bind fun c => (cOd m sl a).bind fun a => (cOd m sl b).bind fun b => some (0, aPick c a b)
  | .alloc t => k2 (cAlloc P t)
  | .box _ o => (cOd m sl o).bind fun x => some (2, aBox x)
  | .build t ps => k0 (cBuild P m sl t ps)
  | .buildSlice t n ps => k2 (cBslice P m sl t n ps)
  | .insert t o ok ov => (cOd m sl o).bind fun x => (cOd m sl ok).bind fun y => (cOd m sl ov).bind fun z => k2 (cMupd P t x y z)
  | .mapUpdate t o ok ov => (cOd m sl o).bind fun x => (cOd m sl ok).bind fun y => (cOd m sl ov).bind fun z => k2 (cMupd P t x y z)
  | .load t o => (cOd m sl o).bind fun x => k1 (cLoad P t x)
  | .store t a o => (cOd m sl a).bind fun x => (cOd m sl o).bind fun y => k2 (cStore P t x y)
  | .nilCheck o => (cOd m sl o).bind fun x => some (0, aNilck x)
  | .binOp op t a b _ => (cOd m sl a).bind fun x => (cOd m sl b).bind fun y => k0 (cBin P t op x y)
  | .unOp op _ o => (cOd m sl o).bind fun x => k0 (cUn op x)
  | .convert s d o => (cOd m sl o).bind fun x => cConv P s d x
  | .makeFunc fn a c => (cOds m sl a.toList).bind fun a => (cOds m sl c.toList).bind fun c => some (0, aMkfn fn a c)
  | .makeMap _ none => some (2, aMkmap)
  | .slice t o lo hi none => (cOd m sl o).bind fun x => (cBd m sl lo).bind fun lo => (cBd m sl hi).bind fun hi => k0 (cSlice P t x lo hi)
  | .fieldAddr t o f => (cOd m sl o).bind fun x => k0 (cFaddr P t f x)
  | .field t o f => (cOd m sl o).bind fun x => k0 (cField P t f x)
  | .indexAddr t o i => (cOd m sl o).bind fun x => (cOd m sl i).bind fun y => k0 (cIaddr P t x y)
  | .index t o i => (cOd m sl o).bind fun x => (cOd m sl i).bind fun y => k0 (cIndex P t x y)
  | .lookup t o i ok => (cOd m sl o).bind fun x => (cOd m sl i).bind fun y => k1 (cLookup P t ok x y)
  | .range t o => (cOd m sl o).bind fun x => if isStr P t then some (2, aRange x) else none
  | .next o true => (cOd m sl o).bind fun x => some (2, aNext x)
  | .extract o i => (cOd m sl o).bind fun x => some (0, aExtract x i)
  | .call c => cCall P m sl c
  | _ => none
end
theorem cOds_ok : ∀ {os : List Operand} {l : List Od}, cOds m sl os = some l → OdsOK m sl l os
  | [], l, h => by cases h; exact .nil
  | o :: r, l, h => by
    simp only [cOds, Option.bind_eq_some_iff, Option.some.injEq] at h
    obtain ⟨x, hx, l', hl, rfl⟩ := h
    exact .cons (cOd_ok hx) (cOds_ok hl)
theorem cBd_ok {o : Option Operand} {b : Bd} (h : cBd m sl o = some b) : BdOK m sl b o := by
  cases o with
  | none => cases h; exact .n
  | some o =>
    simp only [cBd, Option.bind_eq_some_iff, Option.some.injEq] at h
    obtain ⟨x, hx, rfl⟩ := h
    exact .s (cOd_ok hx)
theorem cKey_ok {d : TypeDesc} {q : Cmp} (h : cKey d = some q) : KeyQ d q := by
  unfold cKey at h
  split at h <;> cases h
  · exact .i _
  · exact .s
  · exact .b
theorem cPts_ok {f : Nat → Option (Nat × Nat)} : ∀ {ps : List (Nat × Operand)} {l : List Pt}, cPts m sl f ps = some l → PtsOK m sl f l ps
  | [], l, h => by cases h; exact .nil
  | p :: r, l, h => by
    simp only [cPts, Option.bind_eq_some_iff, Option.some.injEq] at h
    obtain ⟨q, hq, x, hx, l', hl, rfl⟩ := h
    exact .cons hq (cOd_ok hx) (cPts_ok hl)
theorem POK.ok {a op} (h : POK P m sl a op) (env : Env) : OpOK P m sl env 0 a op := ⟨fun _ => h.aok env, fun e => (by cases e), (h.aok env).a0.a⟩
theorem ROK.ok {a op} (h : ROK P m sl a op) (env : Env) : OpOK P m sl env 1 a op := ⟨fun e => (by cases e), fun _ => h.aok env, (h.aok env).a⟩
theorem SOK.ok {a op} (h : SOK P m sl a op) (env : Env) : OpOK P m sl env 2 a op := ⟨fun e => (by cases e), fun e => (by cases e), h.aok env⟩
theorem AOK.ok {a op env} (h : AOK P m sl env a op) : OpOK P m sl env 2 a op := ⟨fun e => (by cases e), fun e => (by cases e), h⟩
theorem cBin_ok {t op x y ox oy t' a} (h : cBin P t op x y = some a) (hx : OdOK m sl x ox) (hy : OdOK m sl y oy) : POK P m sl a (.binOp op t ox oy t') := by
  unfold cBin at h
  split at h
  · cases op <;> cases h <;> first
      | exact p_add hx hy | exact p_sub hx hy | exact p_mul hx hy | exact p_quo hx hy | exact p_rem hx hy | exact p_shl hx hy | exact p_shr hx hy
      | exact p_bits (by simp) hx hy | exact p_cmp (by simp) hx hy
  · cases op <;> cases h <;> first
      | exact p_sadd hx hy | exact p_scmp (by simp) hx hy
  · rename_i ht
    cases op <;> cases h <;> first
      | exact p_eqb ht hx hy | exact p_neb ht hx hy
  · cases h
theorem cUn_ok {t op x o a} (h : cUn op x = some a) (hx : OdOK m sl x o) : POK P m sl a (.unOp op t o) := by
  unfold cUn at h
  split at h <;> cases h
  · exact p_not hx
  · exact p_neg hx
  · exact p_inot hx
theorem cField_ok {t f x o a} (h : cField P t f x = some a) (hx : OdOK m sl x o) : POK P m sl a (.field t o f) := by
  unfold cField at h
  split at h
  · rename_i fs ht
    simp only [Option.bind_eq_some_iff] at h
    obtain ⟨fd, hf, d, hd, h⟩ := h
    split at h
    · rename_i ha
      split at h
      · rename_i hk; cases h
        exact p_fieldN ht hf hd ha hk hx
      · cases h
    · rename_i ha; cases h
      exact p_field ht hf hd (by simpa using ha) hx
  · cases h
theorem cFaddr_ok {t f x o a} (h : cFaddr P t f x = some a) (hx : OdOK m sl x o) : POK P m sl a (.fieldAddr t o f) := by
  unfold cFaddr at h
  split at h
  · rename_i fs ht
    simp only [Option.bind_eq_some_iff] at h
    obtain ⟨fd, hf, i, hi, h⟩ := h
    split at h
    · cases h
    · rename_i hs; cases h
      exact p_faddr ht hf hi (fun e => hs (by rw [e]; rfl)) hx
  · cases h
theorem cIaddr_ok {t x y o oi a} (h : cIaddr P t x y = some a) (hx : OdOK m sl x o) (hy : OdOK m sl y oi) : POK P m sl a (.indexAddr t o oi) := by
  unfold cIaddr at h
  split at h
  · rename_i el ht
    simp only [Option.bind_eq_some_iff, Option.some.injEq] at h
    obtain ⟨i, hi, rfl⟩ := h
    exact p_iaddr ht hi hx hy
  · cases h
theorem cIndex_ok {t x y o oi a} (h : cIndex P t x y = some a) (hx : OdOK m sl x o) (hy : OdOK m sl y oi) : POK P m sl a (.index t o oi) := by
  unfold cIndex at h
  split at h
  · rename_i ht; cases h; exact p_sidx ht hx hy
  · rename_i n el ht
    simp only [Option.bind_eq_some_iff] at h
    obtain ⟨d, hd, h⟩ := h
    split at h
    · cases h
    · rename_i ha
      split at h
      · rename_i hk; cases h
        exact p_aidx ht hd (by simpa using ha) hk hx hy
      · cases h
  · cases h
theorem cSlice_ok {t x lo hi o ol oh a} (h : cSlice P t x lo hi = some a) (hx : OdOK m sl x o) (hl : BdOK m sl lo ol) (hh : BdOK m sl hi oh) : POK P m sl a (.slice t o ol oh none) := by
  unfold cSlice at h
  split at h
  · rename_i ht; cases h; exact p_slstr ht hx hl hh
  · rename_i el ht
    simp only [Option.bind_eq_some_iff, Option.some.injEq] at h
    obtain ⟨i, hi', rfl⟩ := h
    exact p_slsl ht hi' hx hl hh
  · cases h
theorem isU8_ok {t} (h : isU8 P t = true) : P.underlying t = some (.int .u8) := by
  unfold isU8 at h
  split at h
  · assumption
  · cases h
theorem isStr_ok {t} (h : isStr P t = true) : P.underlying t = some .string := by
  unfold isStr at h
  split at h
  · assumption
  · cases h
theorem cConv_ok {s d x o k a} (h : cConv P s d x = some (k, a)) (hx : OdOK m sl x o) (env : Env) : OpOK P m sl env k a (.convert s d o) := by
  unfold cConv at h
  split at h
  · rename_i h1 h2; cases h
    exact (p_cint h1 h2 hx).ok env
  · rename_i h1 h2
    split at h
    · rename_i hu; cases h
      exact (r_b2s h1 (isU8_ok hu) h2 hx).ok env
    · cases h
  · cases h
theorem cLoad_ok {t x o a} (h : cLoad P t x = some a) (hx : OdOK m sl x o) : ROK P m sl a (.load t o) := by
  simp only [cLoad, Option.bind_eq_some_iff] at h
  obtain ⟨d, hd, h⟩ := h
  split at h
  · rename_i ha
    split at h
    · rename_i hk; cases h
      exact r_loadN hd ha hk hx
    · cases h
  · rename_i ha; cases h
    exact r_load hd (by simpa using ha) hx
theorem cStore_ok {t x y o oy a} (h : cStore P t x y = some a) (hx : OdOK m sl x o) (hy : OdOK m sl y oy) : SOK P m sl a (.store t o oy) := by
  simp only [cStore, Option.bind_eq_some_iff] at h
  obtain ⟨d, hd, h⟩ := h
  split at h
  · rename_i hk
    split at h
    · cases h; exact s_storeN hk hx hy
    · split at h
      · rename_i h1; cases h
        exact s_store hk hx hy (beq_eq h1)
      · cases h
  · cases h
theorem cAlloc_ok {t a} (h : cAlloc P t = some a) : SOK P m sl a (.alloc t) := by
  simp only [cAlloc, Option.bind_eq_some_iff, Option.some.injEq] at h
  obtain ⟨zv, h1, z, h2, rfl⟩ := h
  exact s_alloc h1 h2
theorem allF_ok : ∀ {l : List Field}, allF P l = true → ∀ f ∈ l, known P f.type = true
  | [], _, f, hf => by cases hf
  | g :: r, h, f, hf => by
    simp only [allF, Bool.and_eq_true] at h
    rcases List.mem_cons.1 hf with rfl | hf
    · exact h.1
    · exact allF_ok h.2 f hf
theorem cBuild_ok {t ps a} (h : cBuild P m sl t ps = some a) : POK P m sl a (.build t ps) := by
  unfold cBuild at h
  split at h
  · rename_i fs ht
    split at h
    · rename_i hf
      simp only [Option.bind_eq_some_iff, Option.some.injEq] at h
      obtain ⟨zv, h1, z, h2, l, h3, rfl⟩ := h
      exact p_build_struct ht (fun f hm => allF_ok hf f (by simpa using hm)) h1 h2 (cPts_ok h3)
    · cases h
  · rename_i n el ht
    split at h
    · rename_i hk
      simp only [Option.bind_eq_some_iff, Option.some.injEq] at h
      obtain ⟨zv, h1, z, h2, l, h3, rfl⟩ := h
      exact p_build_array ht hk h1 h2 (cPts_ok h3) rfl
    · cases h
  · cases h
theorem cBslice_ok {t n ps a} (h : cBslice P m sl t n ps = some a) : SOK P m sl a (.buildSlice t n ps) := by
  unfold cBslice at h
  split at h
  · rename_i el ht
    split at h
    · rename_i hk
      split at h
      · rename_i hs
        simp only [Option.bind_eq_some_iff, Option.some.injEq] at h
        obtain ⟨zc, h1, z, h2, l, h3, rfl⟩ := h
        exact s_bslice ht hk (ble_le hs) h1 h2 (cPts_ok h3)
      · cases h
    · cases h
  · cases h
theorem cLookup_ok {t ok x y o oi a} (h : cLookup P t ok x y = some a) (hx : OdOK m sl x o) (hy : OdOK m sl y oi) : ROK P m sl a (.lookup t o oi ok) := by
  unfold cLookup at h
  split at h
  · rename_i kt et ht
    simp only [Option.bind_eq_some_iff, Option.some.injEq] at h
    obtain ⟨d, h1, q, h2, zv, h3, z, h4, rfl⟩ := h
    have := r_lookup ht (cKey_ok h2) h1 h3 h4 hx hy
    cases ok
    · exact this.1
    · exact this.2
  · cases h
theorem cMupd_ok {t x y v o oi ov a} (h : cMupd P t x y v = some a) (hx : OdOK m sl x o) (hy : OdOK m sl y oi) (hv : OdOK m sl v ov) : SOK P m sl a (.mapUpdate t o oi ov) ∧ SOK P m sl a (.insert t o oi ov) := by
  unfold cMupd at h
  split at h
  · rename_i kt et ht
    simp only [Option.bind_eq_some_iff, Option.some.injEq] at h
    obtain ⟨d, h1, q, h2, rfl⟩ := h
    have := s_mupd ht (cKey_ok h2) h1 hx hy hv
    refine ⟨this, fun env ρ tm hp k ans e => ?_⟩
    obtain ⟨w, h', a1, a2, a3⟩ := this env ρ tm hp k ans e
    refine ⟨w, h', a1, a2, fun σ B w0 w act r hr o' ho => ?_⟩
    obtain ⟨dd, op', ty, pos, af, gd⟩ := o'
    subst ho
    exact a3 σ B w0 w act r hr ⟨dd, .mapUpdate t o oi ov, ty, pos, af, gd⟩ rfl
  · cases h
theorem cLen_ok {t x o k a} (h : cLen P t x = some (k, a)) (hx : OdOK m sl x o) (env : Env) : OpOK P m sl env k a (.call ⟨.builtin .len, #[o], #[t]⟩) := by
  unfold cLen at h
  split at h
  · rename_i ht; cases h; exact (p_lenS ht hx).ok env
  · rename_i ht; cases h; exact (p_lenL ht hx).ok env
  · rename_i ht; cases h; exact (r_lenM ht hx).ok env
  · cases h
theorem cAppend_ok {t tx x y o oy a} (h : cAppend P t tx x y = some a) (hx : OdOK m sl x o) (hy : OdOK m sl y oy) : SOK P m sl a (.call ⟨.builtin .append, #[o, oy], #[t, tx]⟩) := by
  unfold cAppend at h
  split at h
  · rename_i el ht
    simp only [Option.bind_eq_some_iff] at h
    obtain ⟨i, hi, z, hz, h⟩ := h
    split at h
    · rename_i hc
      simp only [Bool.and_eq_true] at hc
      have hI : Item P t el i z := ⟨ht, hi, hz, beq_eq hc.1, ble_le hc.2⟩
      split at h
      · rename_i hk; cases h
        exact s_append hI hk hx hy
      · rename_i hk
        split at h
        · rename_i h1; cases h
          exact s_appendS hI (beq_eq h1) hk hx hy
        · cases h
      · cases h
    · cases h
  · cases h
theorem cCall_ok {c k a} {env : Env} (he : EnvOK P env) (h : cCall P m sl c = some (k, a)) : OpOK P m sl env k a (.call c) := by
  unfold cCall at h
  split at h
  · simp only [Option.bind_eq_some_iff] at h
    obtain ⟨x, hx, h⟩ := h
    exact cLen_ok h (cOd_ok hx) env
  · simp only [Option.bind_eq_some_iff, Option.some.injEq, Prod.mk.injEq] at h
    obtain ⟨x, hx, y, hy, b, hb, rfl, rfl⟩ := h
    exact (cAppend_ok hb (cOd_ok hx) (cOd_ok hy)).ok env
  · simp only [Option.bind_eq_some_iff, Option.some.injEq, Prod.mk.injEq] at h
    obtain ⟨l, hl, rfl, rfl⟩ := h
    exact (a_call he (cOds_ok hl)).ok
  · simp only [Option.bind_eq_some_iff, Option.some.injEq, Prod.mk.injEq] at h
    obtain ⟨x, hx, l, hl, rfl, rfl⟩ := h
    exact (a_callv he (cOd_ok hx) (cOds_ok hl)).ok
  · cases h
theorem cOp_ok {op k a} {env : Env} (he : EnvOK P env) (h : cOp P m sl op = some (k, a)) : OpOK P m sl env k a op := by
  unfold cOp at h
  split at h <;> (try simp only [k0, k1, k2, Option.bind_eq_some_iff, Option.some.injEq, Prod.mk.injEq] at h)
  · obtain ⟨x, hx, rfl, rfl⟩ := h; exact (p_mv (cOd_ok hx)).1.ok env
  · obtain ⟨x, hx, rfl, rfl⟩ := h; exact (p_mv (cOd_ok hx)).2.ok env
  · obtain ⟨x, hx, y, hy, z, hz, rfl, rfl⟩ := h; exact (p_pick (cOd_ok hx) (cOd_ok hy) (cOd_ok hz)).ok env
  · obtain ⟨b, hb, rfl, rfl⟩ := h; exact (cAlloc_ok hb).ok env
  · obtain ⟨x, hx, rfl, rfl⟩ := h; exact (s_box (cOd_ok hx)).ok env
  · obtain ⟨b, hb, rfl, rfl⟩ := h; exact (cBuild_ok hb).ok env
  · obtain ⟨b, hb, rfl, rfl⟩ := h; exact (cBslice_ok hb).ok env
  · obtain ⟨x, hx, y, hy, z, hz, b, hb, rfl, rfl⟩ := h; exact (cMupd_ok hb (cOd_ok hx) (cOd_ok hy) (cOd_ok hz)).2.ok env
  · obtain ⟨x, hx, y, hy, z, hz, b, hb, rfl, rfl⟩ := h; exact (cMupd_ok hb (cOd_ok hx) (cOd_ok hy) (cOd_ok hz)).1.ok env
  · obtain ⟨x, hx, b, hb, rfl, rfl⟩ := h; exact (cLoad_ok hb (cOd_ok hx)).ok env
  · obtain ⟨x, hx, y, hy, b, hb, rfl, rfl⟩ := h; exact (cStore_ok hb (cOd_ok hx) (cOd_ok hy)).ok env
  · obtain ⟨x, hx, rfl, rfl⟩ := h; exact (p_nilck (cOd_ok hx)).ok env
  · obtain ⟨x, hx, y, hy, b, hb, rfl, rfl⟩ := h; exact (cBin_ok hb (cOd_ok hx) (cOd_ok hy)).ok env
  · obtain ⟨x, hx, b, hb, rfl, rfl⟩ := h; exact (cUn_ok hb (cOd_ok hx)).ok env
  · obtain ⟨x, hx, h⟩ := h; exact cConv_ok h (cOd_ok hx) env
  · obtain ⟨x, hx, y, hy, rfl, rfl⟩ := h; exact (p_mkfn (cOds_ok hx) (cOds_ok hy)).ok env
  · obtain ⟨rfl, rfl⟩ := h; exact s_mkmap.ok env
  · obtain ⟨x, hx, lo, hlo, hi, hhi, b, hb, rfl, rfl⟩ := h; exact (cSlice_ok hb (cOd_ok hx) (cBd_ok hlo) (cBd_ok hhi)).ok env
  · obtain ⟨x, hx, b, hb, rfl, rfl⟩ := h; exact (cFaddr_ok hb (cOd_ok hx)).ok env
  · obtain ⟨x, hx, b, hb, rfl, rfl⟩ := h; exact (cField_ok hb (cOd_ok hx)).ok env
  · obtain ⟨x, hx, y, hy, b, hb, rfl, rfl⟩ := h; exact (cIaddr_ok hb (cOd_ok hx) (cOd_ok hy)).ok env
  · obtain ⟨x, hx, y, hy, b, hb, rfl, rfl⟩ := h; exact (cIndex_ok hb (cOd_ok hx) (cOd_ok hy)).ok env
  · obtain ⟨x, hx, y, hy, b, hb, rfl, rfl⟩ := h; exact (cLookup_ok hb (cOd_ok hx) (cOd_ok hy)).ok env
  · obtain ⟨x, hx, h⟩ := h
    split at h
    · rename_i ht
      simp only [Option.some.injEq, Prod.mk.injEq] at h
      obtain ⟨rfl, rfl⟩ := h; exact (s_range (isStr_ok ht) (cOd_ok hx)).ok env
    · cases h
  · obtain ⟨x, hx, rfl, rfl⟩ := h; exact (s_next (cOd_ok hx)).ok env
  · obtain ⟨x, hx, rfl, rfl⟩ := h; exact (p_extract (cOd_ok hx)).ok env
  · exact cCall_ok he h
  · cases h
end
end Go.Ab
namespace Go.Ab
open Go Go.RowKit
/-! regions, compiled -/
noncomputable section
def tmpsOf (op : Go.Op) : List Tmp := op.operands.toList.filterMap fun | .tmp t => some t | _ => none
def nmOf (ops : Array Oper) (o : Oper) : List Tmp := tmpsOf o.op ++ (match o.guard with | none => [] | some g => (dstOf ops g.1).toList)
def nmAt (ops : Array Oper) (i : Nat) : List Tmp := match ops[i]? with | some o => nmOf ops o | none => []
def cGd (ops : Array Oper) (m : List (Option Nat)) : Option (Nat × Bool) → Option (Option (Nat × Bool))
  | none => some none
  | some g => (dstOf ops g.1).bind fun t => (ago t m).bind fun j => some (some (j, g.2))
def cDsc (P : Program) (ops : Array Oper) (bf : Nat → Nat → Bool) (sl : List (Nat × Pa)) (i : Nat) (o : Oper) : Option (Nat × Dsc) :=
  (cOp P (mUp ops bf i (nmOf ops o) i) (slOf ops bf i (nmOf ops o) sl) o.op).bind fun ka => (cGd ops (mUp ops bf i (nmOf ops o) i) o.guard).bind fun g =>
    some (ka.1, ⟨Nat.ble 2 ka.1, g, o.dst.bind (lk · sl), ka.2⟩)
def cDscs (P : Program) (ops : Array Oper) (bf : Nat → Nat → Bool) (sl : List (Nat × Pa)) : Nat → List Oper → Option (List (Nat × Dsc))
  | _, [] => some []
  | i, o :: r => (cDsc P ops bf sl i o).bind fun d => (cDscs P ops bf sl (i + 1) r).bind fun l => some (d :: l)
def dstB (N : Nat) : List Oper → Bool
  | [] => true
  | o :: r => (match o.dst with | some t => Nat.blt t N | none => true) && dstB N r
def cRgn (P : Program) (sl : List (Nat × Pa)) (N : Nat) (ops : Array Oper) : Option Cd :=
  if dstB N ops.toList then (cDscs P ops bl sl 0 ops.toList).bind fun l => some (cRegD (l.map (·.2))) else none
/-! those that draw -/
def predsOf (o : Oper) : List Nat := o.after.toList.filterMap fun e => if Region.binds .any e then some e.on else none
def maskOf (acc : List Nat) : List Nat → Nat → Nat
  | [], s => s
  | j :: r, s => maskOf acc r (s ||| (2 ^ j ||| acc.getD j 0))
def befs : List Oper → List Nat → List Nat
  | [], acc => acc
  | o :: r, acc => befs r (acc ++ [maskOf acc (predsOf o) 0])
def bfOf (l : List Nat) (i j : Nat) : Bool := (l.getD i 0).testBit j
def edB : Nat → List Oper → Bool
  | _, [] => true
  | i, o :: r => (predsOf o).all (Nat.blt · i) && edB (i + 1) r
def wsL : Nat → List Dsc → List Nat
  | _, [] => []
  | i, d :: r => if d.w then i :: wsL (i + 1) r else wsL (i + 1) r
def phL (bf : Nat → Nat → Bool) (i k : Nat) : Nat → List Nat → Bool
  | _, [] => true
  | p, w :: r => (if Nat.blt p k then !bf w i else !bf i w) && phL bf i k (p + 1) r
def phs (bf : Nat → Nat → Bool) (i : Nat) (ws : List Nat) (W own : Nat) : Nat → List Nat
  | 0 => []
  | k + 1 => if phL bf i k 0 ws && !Nat.beq k own then (W - k) :: phs bf i ws W own k else phs bf i ws W own k
def cCks (P : Program) (ops : Array Oper) (bf : Nat → Nat → Bool) (sl : List (Nat × Pa)) (l : List Dsc) : Nat → List Oper → List (Nat × Dsc) → Option (List Ck)
  | i, o :: r, d :: q => if Nat.beq d.1 1 then
      (match phs bf i (wsL 0 l) (wc (wOf l) ops.size) (wc (wOf l) i) (wc (wOf l) ops.size + 1) with
      | [] => cCks P ops bf sl l (i + 1) r q
      | k :: ks => (cOp P (mUp ops bf i (nmOf ops o) ops.size) (slNo ops (nmOf ops o) sl) o.op).bind fun ka => if Nat.beq ka.1 1 then (cCks P ops bf sl l (i + 1) r q).bind fun cs =>
          some (⟨ops.size - 1 - i, d.2.g.map (fun q => (q.1 + (ops.size - i), q.2)), ka.2, k :: ks⟩ :: cs) else none)
    else cCks P ops bf sl l (i + 1) r q
  | _, _, _ => some []
def ordB (ops : Array Oper) (bf : Nat → Nat → Bool) (wr : Nat → Bool) : Bool :=
  allN (fun i => allN (fun j => (Nat.beq j i || (bf i j || (bf j i || !(match dstOf ops j with | some t => (nmAt ops i).contains t || isD (dstOf ops i) t | none => false)))) && (!(Nat.blt j i && (wr i && wr j)) || bf i j)) ops.size) ops.size
def cDrw (P : Program) (sl : List (Nat × Pa)) (N : Nat) (ops : Array Oper) (bf : Nat → Nat → Bool) : Option Cd :=
  if dstB N ops.toList && (edB 0 ops.toList && P.follows .mixedOrders) then (cDscs P ops bf sl 0 ops.toList).bind fun l => if ordB ops bf (wOf (l.map (·.2))) then (cCks P ops bf sl (l.map (·.2)) 0 ops.toList l).bind fun cks => some (cDraw (l.map (·.2)) cks) else none else none
end
section
variable {P : Program} {sl : List (Nat × Pa)} {N : Nat} {env : Env} {ops : Array Oper} {bf : Nat → Nat → Bool}
theorem cDscs_at : ∀ {l0 : List Oper} {i : Nat} {l : List (Nat × Dsc)}, cDscs P ops bf sl i l0 = some l → l.length = l0.length ∧ ∀ (j : Nat) (o : Oper), l0[j]? = some o → ∃ d, l[j]? = some d ∧ cDsc P ops bf sl (i + j) o = some d
  | [], i, l, h => by cases h; exact ⟨rfl, by simp⟩
  | o :: r, i, l, h => by
    simp only [cDscs, Option.bind_eq_some_iff, Option.some.injEq] at h
    obtain ⟨d, h1, l', h2, rfl⟩ := h
    obtain ⟨p, q⟩ := cDscs_at h2
    refine ⟨by simp [p], fun j o' hj => ?_⟩
    cases j with
    | zero => simp at hj; subst hj; exact ⟨d, rfl, h1⟩
    | succ j =>
      obtain ⟨d', e1, e2⟩ := q j o' (by simpa using hj)
      exact ⟨d', by simpa using e1, by rw [show i + (j + 1) = i + 1 + j from by omega]; exact e2⟩
theorem dstB_ok : ∀ {l : List Oper}, dstB N l = true → ∀ (i : Nat) (o : Oper) t, l[i]? = some o → o.dst = some t → t < N
  | [], _, i, o, t, h, _ => by simp at h
  | o' :: r, h, i, o, t, hi, ht => by
    simp only [dstB, Bool.and_eq_true] at h
    cases i with
    | zero =>
      simp at hi; subst hi
      rw [ht] at h
      exact blt_lt h.1
    | succ i => exact dstB_ok h.2 i o t (by simpa using hi) ht
theorem dst_ok (h : dstB N ops.toList = true) : ∀ i t, dstOf ops i = some t → t < N := by
  intro i t ht
  unfold dstOf at ht
  cases ho : ops[i]? with
  | none => rw [ho] at ht; cases ht
  | some o =>
    rw [ho] at ht
    exact dstB_ok h i o t (by simpa using ho) ht
theorem comp_of (he : EnvOK P env) {l : List (Nat × Dsc)} (h : cDscs P ops bf sl 0 ops.toList = some l) : Comp P ops bf (nmAt ops) sl env (l.map (·.2)) (fun i => ((l[i]?).map (·.1)).getD 0) := by
  obtain ⟨p, q⟩ := cDscs_at h
  refine ⟨by simp [p], fun i o ho => ?_⟩
  obtain ⟨d, e1, e2⟩ := q i o (by simpa using ho)
  rw [Nat.zero_add] at e2
  simp only [cDsc, Option.bind_eq_some_iff, Option.some.injEq] at e2
  obtain ⟨⟨k, a⟩, h1, g, h2, rfl⟩ := e2
  have hnm : nmAt ops i = nmOf ops o := by simp [nmAt, ho]
  refine ⟨⟨Nat.ble 2 k, g, o.dst.bind (lk · sl), a⟩, by simp [e1], ?_, ?_, rfl, ?_⟩
  · simp only [e1, Option.map_some, Option.getD_some]
    rw [Bool.eq_iff_iff]
    simp [Nat.ble_eq]
  · simp only [e1, Option.map_some, Option.getD_some, hnm]
    exact cOp_ok he h1
  · rw [hnm]
    cases hg : o.guard with
    | none => rw [hg] at h2; cases h2; rfl
    | some gx =>
      rw [hg] at h2
      simp only [cGd, Option.bind_eq_some_iff, Option.some.injEq] at h2
      obtain ⟨t, h3, j, h4, rfl⟩ := h2
      exact ⟨t, j, h3, h4, rfl⟩
theorem cRgn_ok {id : Nat} {cd : Cd} (he : EnvOK P env) (hinj : SlInj sl) (h : cRgn P sl N ops = some cd) : CdOK P sl N env (.region id ops false) cd := by
  unfold cRgn at h
  split at h
  · rename_i hd
    simp only [Option.bind_eq_some_iff, Option.some.injEq] at h
    obtain ⟨l, h1, rfl⟩ := h
    exact cd_reg (comp_of he h1) hinj (dst_ok hd)
  · cases h
/-! what lies before -/
theorem mem_preds {o : Oper} {j : Nat} : j ∈ predsOf o ↔ ∃ e ∈ o.after, Region.binds .any e = true ∧ e.on = j := by
  unfold predsOf
  rw [List.mem_filterMap]
  constructor
  · rintro ⟨e, he, h⟩
    split at h
    · rename_i hb; cases h
      exact ⟨e, by simpa using he, hb, rfl⟩
    · cases h
  · rintro ⟨e, he, hb, rfl⟩
    exact ⟨e, by simpa using he, by simp [hb]⟩
theorem maskOf_bit {acc : List Nat} : ∀ {l : List Nat} {s j : Nat}, (maskOf acc l s).testBit j = true → s.testBit j = true ∨ ∃ p ∈ l, j = p ∨ (acc.getD p 0).testBit j = true
  | [], s, j, h => .inl h
  | p :: r, s, j, h => by
    rcases maskOf_bit (l := r) h with h | ⟨q, hq, h⟩
    · simp only [Nat.testBit_or, Bool.or_eq_true, Nat.testBit_two_pow, decide_eq_true_eq] at h
      rcases h with h | h | h
      · exact .inl h
      · exact .inr ⟨p, by simp, .inl h.symm⟩
      · exact .inr ⟨p, by simp, .inr h⟩
    · exact .inr ⟨q, by simp [hq], h⟩
/-- what the masks say -/
def MaskOK (all : List Oper) (acc : List Nat) : Prop := ∀ (i m : Nat), acc[i]? = some m → ∀ j, m.testBit j = true → ∃ o, all[i]? = some o ∧ ∃ p ∈ predsOf o, j = p ∨ (p < i ∧ ∃ m', acc[p]? = some m' ∧ m'.testBit j = true)
theorem befs_ok (all : List Oper) : ∀ (r : List Oper) (acc : List Nat), (∀ k, all[acc.length + k]? = r[k]?) → MaskOK all acc → MaskOK all (befs r acc) ∧ (befs r acc).length = acc.length + r.length
  | [], acc, _, h => ⟨h, by simp [befs]⟩
  | o :: r, acc, hr, h => by
    have := befs_ok all r (acc ++ [maskOf acc (predsOf o) 0]) (fun k => by
      have := hr (k + 1)
      simp only [List.length_append, List.length_cons, List.length_nil] at *
      rw [show acc.length + (0 + 1) + k = acc.length + (k + 1) from by omega, this]; simp) (fun i m hi j hj => ?_)
    · refine ⟨this.1, ?_⟩
      show (befs r (acc ++ [maskOf acc (predsOf o) 0])).length = _
      rw [this.2]; simp; omega
    · by_cases hil : i < acc.length
      · rw [List.getElem?_append_left hil] at hi
        obtain ⟨o', h1, p, h2, h3⟩ := h i m hi j hj
        refine ⟨o', h1, p, h2, h3.imp id fun ⟨hp, m', h4, h5⟩ => ⟨hp, m', ?_, h5⟩⟩
        rw [List.getElem?_append_left (by omega)]; exact h4
      · have hie : i = acc.length := by
          have := (List.getElem?_eq_some_iff.1 hi).1
          simp at this; omega
        subst hie
        simp at hi; subst hi
        have ho : all[acc.length]? = some o := by have := hr 0; simpa using this
        refine ⟨o, ho, ?_⟩
        rcases maskOf_bit hj with hz | ⟨p, hp, hq⟩
        · simp at hz
        · refine ⟨p, hp, hq.imp id fun hq => ?_⟩
          have hpl : p < acc.length := by
            rcases Nat.lt_or_ge p acc.length with h' | h'
            · exact h'
            · rw [List.getD_eq_getElem?_getD, List.getElem?_eq_none h'] at hq
              simp at hq
          refine ⟨hpl, acc[p], ?_, ?_⟩
          · rw [List.getElem?_append_left hpl]; simp [hpl]
          · rw [List.getD_eq_getElem?_getD] at hq
            simpa [hpl] using hq
theorem edB_ok : ∀ {l : List Oper} {i : Nat}, edB i l = true → ∀ (j : Nat) (o : Oper), l[j]? = some o → ∀ p ∈ predsOf o, p < i + j
  | [], i, _, j, o, h => by simp at h
  | o' :: r, i, h, j, o, hj => by
    simp only [edB, Bool.and_eq_true, List.all_eq_true] at h
    cases j with
    | zero => simp at hj; subst hj; exact fun p hp => blt_lt (h.1 p hp)
    | succ j =>
      have := edB_ok h.2 j o (by simpa using hj)
      intro p hp
      have := this p hp
      omega
theorem bf_facts (hed : edB 0 ops.toList = true) : (∀ i j, bfOf (befs ops.toList []) i j = true → j < i) ∧
    ∀ L : Nat → Bool, (∀ a oa, ops[a]? = some oa → L a = true → ∀ e ∈ oa.after, Region.binds .any e = true → L e.on = true) → ∀ i o, ops[i]? = some o → (∀ e ∈ o.after, Region.binds .any e = true → L e.on = true) → ∀ j, bfOf (befs ops.toList []) i j = true → L j = true := by
  have hM : MaskOK ops.toList (befs ops.toList []) := (befs_ok ops.toList ops.toList [] (fun k => by simp) (fun i m h => by simp at h)).1
  have at_ : ∀ i j, bfOf (befs ops.toList []) i j = true → ∃ m, (befs ops.toList [])[i]? = some m ∧ m.testBit j = true := by
    intro i j h
    unfold bfOf at h
    rw [List.getD_eq_getElem?_getD] at h
    cases hm : (befs ops.toList [])[i]? with
    | none => rw [hm] at h; simp at h
    | some m => rw [hm] at h; exact ⟨m, rfl, h⟩
  constructor
  · intro i
    induction i using Nat.strongRecOn with
    | _ i ih =>
      intro j h
      obtain ⟨m, h1, h2⟩ := at_ i j h
      obtain ⟨o, h3, p, h4, h5⟩ := hM i m h1 j h2
      have hp := edB_ok hed i o h3 p h4
      rcases h5 with rfl | ⟨hlt, m', h6, h7⟩
      · omega
      · have := ih p hlt j (by unfold bfOf; rw [List.getD_eq_getElem?_getD, h6]; exact h7)
        omega
  · intro L hcl i
    induction i using Nat.strongRecOn with
    | _ i ih =>
      intro o ho hL j h
      obtain ⟨m, h1, h2⟩ := at_ i j h
      obtain ⟨o', h3, p, h4, h5⟩ := hM i m h1 j h2
      have hoo : o' = o := by
        have : ops[i]? = some o' := by simpa using h3
        rw [ho] at this; cases this; rfl
      subst hoo
      obtain ⟨e, he, hb, rfl⟩ := mem_preds.1 h4
      have hLp := hL e he hb
      rcases h5 with rfl | ⟨hlt, m', h6, h7⟩
      · exact hLp
      · have his : e.on < ops.size := by
          have := (Array.getElem?_eq_some_iff.1 ho).1
          omega
        exact ih e.on hlt _ (Array.getElem?_eq_getElem his) (hcl e.on _ (Array.getElem?_eq_getElem his) hLp) j (by unfold bfOf; rw [List.getD_eq_getElem?_getD, h6]; exact h7)
theorem phL_of {l : List Dsc} {i k : Nat} (hsz : l.length = ops.size) (hph : phase ops bf (wOf l) i k) (hi : wOf l i = false) : ∀ (r : List Dsc) (s : Nat), (∀ j, l[s + j]? = r[j]?) → phL bf i k (wc (wOf l) s) (wsL s r) = true
  | [], s, h => rfl
  | d :: r, s, h => by
    have hd : l[s]? = some d := by have := h 0; simpa using this
    have hs : s < ops.size := by rw [← hsz]; exact (List.getElem?_eq_some_iff.1 hd).1
    have hw : wOf l s = d.w := by simp [wOf, hd]
    have ih := phL_of hsz hph hi r (s + 1) (fun j => by have := h (j + 1); rw [show s + 1 + j = s + (j + 1) from by omega, this]; simp)
    have hwc : wc (wOf l) (s + 1) = wc (wOf l) s + (if d.w = true then 1 else 0) := by
      unfold wc; simp [cntN, hw]
    unfold wsL
    cases hdw : d.w with
    | false =>
      rw [hdw] at hwc
      simp only [Bool.false_eq_true, if_false, Nat.add_zero] at hwc ⊢
      rw [hwc] at ih; exact ih
    | true =>
      rw [hdw] at hwc hw
      simp only [if_true] at hwc ⊢
      rw [hwc] at ih
      simp only [phL, ih, Bool.and_true]
      obtain ⟨p1, p2⟩ := hph.2.2 hi s hs hw
      by_cases hlt : wc (wOf l) s < k
      · have hb : Nat.blt (wc (wOf l) s) k = true := Nat.ble_eq_true_of_le hlt
        rw [hb, if_pos rfl, p1 hlt]; rfl
      · have : Nat.blt (wc (wOf l) s) k = false := by
          cases hb : Nat.blt (wc (wOf l) s) k with
          | false => rfl
          | true => exact absurd (blt_lt hb) hlt
        rw [this, if_neg (by simp), p2 (by omega)]; rfl
theorem mem_phs {i : Nat} {ws : List Nat} {W own : Nat} : ∀ {n k : Nat}, k < n → phL bf i k 0 ws = true → k ≠ own → (W - k) ∈ phs bf i ws W own n
  | 0, k, h, _, _ => by omega
  | n + 1, k, h, h1, h2 => by
    unfold phs
    by_cases hkn : k = n
    · subst hkn
      have : Nat.beq k own = false := by
        cases hb : Nat.beq k own with
        | false => rfl
        | true => exact absurd (beq_eq hb) h2
      rw [h1, this]; simp
    · have := mem_phs (n := n) (k := k) (W := W) (own := own) (by omega) h1 h2
      split
      · exact List.mem_cons_of_mem _ this
      · exact this
theorem cCks_at {l : List Dsc} : ∀ {os : List Oper} {q : List (Nat × Dsc)} {i : Nat} {cks : List Ck}, cCks P ops bf sl l i os q = some cks →
    (∀ K ∈ cks, ∃ m' s' o k a, cOp P m' s' o = some (k, a) ∧ k = 1 ∧ K.a = a) ∧
    ∀ (j : Nat) (o : Oper) (d : Nat × Dsc), os[j]? = some o → q[j]? = some d → d.1 = 1 → ∀ k, k ∈ phs bf (i + j) (wsL 0 l) (wc (wOf l) ops.size) (wc (wOf l) (i + j)) (wc (wOf l) ops.size + 1) →
      ∃ K ∈ cks, K.j = ops.size - 1 - (i + j) ∧ K.g = d.2.g.map (fun q => (q.1 + (ops.size - (i + j)), q.2)) ∧ cOp P (mUp ops bf (i + j) (nmOf ops o) ops.size) (slNo ops (nmOf ops o) sl) o.op = some (1, K.a) ∧ k ∈ K.ks
  | [], q, i, cks, h => by
    cases q <;> (simp [cCks] at h; subst h; exact ⟨by simp, by simp⟩)
  | o :: r, [], i, cks, h => by simp [cCks] at h; subst h; exact ⟨by simp, by simp⟩
  | o :: r, d :: q, i, cks, h => by
    unfold cCks at h
    have shift : ∀ {cs : List Ck}, (∀ (j : Nat) (o' : Oper) (d' : Nat × Dsc), r[j]? = some o' → q[j]? = some d' → d'.1 = 1 → ∀ k, k ∈ phs bf (i + 1 + j) (wsL 0 l) (wc (wOf l) ops.size) (wc (wOf l) (i + 1 + j)) (wc (wOf l) ops.size + 1) →
      ∃ K ∈ cs, K.j = ops.size - 1 - (i + 1 + j) ∧ K.g = d'.2.g.map (fun q => (q.1 + (ops.size - (i + 1 + j)), q.2)) ∧ cOp P (mUp ops bf (i + 1 + j) (nmOf ops o') ops.size) (slNo ops (nmOf ops o') sl) o'.op = some (1, K.a) ∧ k ∈ K.ks) →
      ∀ (j : Nat) (o' : Oper) (d' : Nat × Dsc), r[j]? = some o' → q[j]? = some d' → d'.1 = 1 → ∀ k, k ∈ phs bf (i + (j + 1)) (wsL 0 l) (wc (wOf l) ops.size) (wc (wOf l) (i + (j + 1))) (wc (wOf l) ops.size + 1) →
      ∃ K ∈ cs, K.j = ops.size - 1 - (i + (j + 1)) ∧ K.g = d'.2.g.map (fun q => (q.1 + (ops.size - (i + (j + 1))), q.2)) ∧ cOp P (mUp ops bf (i + (j + 1)) (nmOf ops o') ops.size) (slNo ops (nmOf ops o') sl) o'.op = some (1, K.a) ∧ k ∈ K.ks := by
      intro cs h j
      rw [show i + (j + 1) = i + 1 + j from by omega]
      exact h j
    by_cases hd : Nat.beq d.1 1 = true
    · rw [if_pos hd] at h
      split at h
      · rename_i hps
        obtain ⟨p1, p2⟩ := cCks_at h
        refine ⟨p1, fun j o' d' hj hd' h1 k hk => ?_⟩
        cases j with
        | zero =>
          rw [Nat.add_zero, hps] at hk; cases hk
        | succ j => exact shift p2 j o' d' (by simpa using hj) (by simpa using hd') h1 k hk
      · rename_i k0 ks hps
        simp only [Option.bind_eq_some_iff] at h
        obtain ⟨⟨kk, a⟩, h1, h2⟩ := h
        split at h2
        · rename_i hk1
          have hk1' : kk = 1 := beq_eq hk1
          subst hk1'
          simp only [Option.bind_eq_some_iff, Option.some.injEq] at h2
          obtain ⟨cs, h3, rfl⟩ := h2
          obtain ⟨p1, p2⟩ := cCks_at h3
          refine ⟨fun K hK => ?_, fun j o' d' hj hd' hd1 k hk => ?_⟩
          · rcases List.mem_cons.1 hK with rfl | hK
            · exact ⟨_, _, _, 1, a, h1, rfl, rfl⟩
            · exact p1 K hK
          · cases j with
            | zero =>
              simp at hj hd'; subst hj; subst hd'
              rw [Nat.add_zero] at hk ⊢
              rw [hps] at hk
              exact ⟨_, List.mem_cons_self, rfl, rfl, h1, hk⟩
            | succ j =>
              obtain ⟨K, hK, w⟩ := shift p2 j o' d' (by simpa using hj) (by simpa using hd') hd1 k hk
              exact ⟨K, List.mem_cons_of_mem _ hK, w⟩
        · cases h2
    · rw [if_neg hd] at h
      obtain ⟨p1, p2⟩ := cCks_at h
      refine ⟨p1, fun j o' d' hj hd' h1 k hk => ?_⟩
      cases j with
      | zero =>
        simp at hd'; subst hd'
        exact absurd (by rw [h1]; rfl) hd
      | succ j => exact shift p2 j o' d' (by simpa using hj) (by simpa using hd') h1 k hk
theorem cDrw_ok {id : Nat} {cd : Cd} (he : EnvOK P env) (hinj : SlInj sl) (h : cDrw P sl N ops (bfOf (befs ops.toList [])) = some cd) : CdOK P sl N env (.region id ops true) cd := by
  unfold cDrw at h
  split at h
  · rename_i hc
    simp only [Bool.and_eq_true] at hc
    simp only [Option.bind_eq_some_iff] at h
    obtain ⟨l, h1, h2⟩ := h
    split at h2
    · rename_i hord
      simp only [Option.bind_eq_some_iff, Option.some.injEq] at h2
      obtain ⟨cks, h3, rfl⟩ := h2
      have hC := comp_of he h1
      obtain ⟨f1, f2⟩ := bf_facts (ops := ops) hc.2.1
      have hO : Ord ops (bfOf (befs ops.toList [])) (wOf (l.map (·.2))) (nmAt ops) := by
        refine ⟨f1, fun i j hi hj hwi hwj => ?_, fun i j t hi hj hne hd hn => ?_⟩
        · have := allN_spec (allN_spec hord i hi) j (by omega)
          simp only [Bool.and_eq_true, Bool.or_eq_true, Bool.not_eq_true'] at this
          rcases this.2 with h' | h'
          · rw [hwi, hwj] at h'
            have hb : Nat.blt j i = true := Nat.ble_eq_true_of_le hj
            rw [hb] at h'; cases h'
          · exact h'
        · have := allN_spec (allN_spec hord i hi) j hj
          simp only [Bool.and_eq_true, Bool.or_eq_true, Bool.not_eq_true'] at this
          rcases this.1 with h' | h' | h' | h'
          · exact absurd (beq_eq h') hne
          · exact .inl h'
          · exact .inr h'
          · exfalso
            rw [hd] at h'
            simp only [Bool.or_eq_false_iff] at h'
            rcases hn with hn | hn
            · have : (nmAt ops i).contains t = true := by simpa using hn
              rw [this] at h'; cases h'.1
            · rw [isD_iff.2 hn] at h'; cases h'.2
      obtain ⟨p1, p2⟩ := cCks_at h3
      have hK : CksOK P ops (bfOf (befs ops.toList [])) (nmAt ops) sl env (l.map (·.2)) (fun i => ((l[i]?).map (·.1)).getD 0) cks := by
        refine ⟨fun K hK => ?_, fun i o d ho hd hk1 k hph hne => ?_⟩
        · obtain ⟨m', s', o, k, a, e1, e2, e3⟩ := p1 K hK
          rw [e3]
          exact ((cOp_ok he e1).re e2).reg
        · obtain ⟨q1, q2⟩ := cDscs_at h1
          obtain ⟨dd, e1, e2⟩ := q2 i o (by simpa using ho)
          have hdd : dd.2 = d := by
            have : (l.map (·.2))[i]? = some dd.2 := by simp [e1]
            rw [hd] at this; cases this; rfl
          have hkk : dd.1 = 1 := by simpa [e1] using hk1
          have hi : i < ops.size := (Array.getElem?_eq_some_iff.1 ho).1
          have hwi : wOf (l.map (·.2)) i = false := by
            rw [wOf_eq hC hi]
            simp [hk1]
          have hpl : phL (bfOf (befs ops.toList [])) i k 0 (wsL 0 (l.map (·.2))) = true := phL_of (l := l.map (·.2)) hC.len hph hwi (l.map (·.2)) 0 (fun j => by rw [Nat.zero_add])
          have hmem := mem_phs (bf := bfOf (befs ops.toList [])) (i := i) (ws := wsL 0 (l.map (·.2))) (W := wc (wOf (l.map (·.2))) ops.size) (own := wc (wOf (l.map (·.2))) i) (n := wc (wOf (l.map (·.2))) ops.size + 1) (k := k) (by have := hph.2.1; omega)
            hpl hne
          obtain ⟨K, hKm, k1, k2, k3, k4⟩ := p2 i o dd (by simpa using ho) e1 hkk _ (by rw [Nat.zero_add]; exact hmem)
          rw [Nat.zero_add] at k1 k2 k3
          have hnm : nmAt ops i = nmOf ops o := by simp [nmAt, ho]
          refine ⟨K, hKm, k1, by rw [k2, hdd], ?_, k4⟩
          rw [hnm]
          exact (cOp_ok he k3).re rfl
      exact cd_draw hc.2.2 hO hC hK hinj (dst_ok hc.1) (fun i o ho e he' hb => by
        have := edB_ok hc.2.1 i o (by simpa using ho) e.on (mem_preds.2 ⟨e, he', hb, rfl⟩)
        omega) f2
    · cases h2
  · cases h
end
end Go.Ab
