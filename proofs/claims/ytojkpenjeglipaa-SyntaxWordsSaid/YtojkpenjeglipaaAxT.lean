/- Regions that draw their order, with footprints gathered: one goal at the end. -/
import Derived.Test.YtojkpenjeglipaaAxS
set_option linter.unusedVariables false
set_option linter.unusedSimpArgs false
namespace Go.Ax

abbrev Acc := List (List Nat × List Nat)
def xacc (P : Program) (base : Nat) : List XI → Acc → (Acc → XS → Prop) → XS → Prop
  | [], acc, K, s => K acc s
  | i :: r, acc, K, s =>
    match i.guard with
    | none => xopD P i.op (base + i.nm) (fun v U R => xacc P base r (acc ++ [(U.map (·.1), R)]) K (s.put i.dst v (setAll s.st U))) s
    | some (t, want) => match s.r t with
      | .d (.bool b) => (b = want → xopD P i.op (base + i.nm) (fun v U R => xacc P base r (acc ++ [(U.map (·.1), R)]) K (s.put i.dst v (setAll s.st U))) s) ∧
          (b = !want → xacc P base r (acc ++ [([], [])]) K (s.put i.dst (.tup []) s.st))
      | .tup [] => xacc P base r (acc ++ [([], [])]) K (s.put i.dst (.tup []) s.st)
      | _ => False

def okAll (anc : List (List Nat)) : Nat → Acc → Acc → Prop
  | _, _, [] => True
  | k, done, (U, R) :: rest => okPairs (ancAt anc k) U R 0 done ∧ okAll anc (k + 1) (done ++ [(U, R)]) rest

section
variable {P : Program} {s : XS}
theorem xopD_reach {o : XOp} {idx : Nat} {K : PV → List (Nat × Content) → List Nat → Prop} (hk : xopD P o idx K s) : ∃ v U R, K v U R := by
  by_cases hp : plainOp o = true
  · have hk' : xop P o (fun v _ => K v [] (readsOf o s)) s := by cases o <;> first | exact hk | simp [plainOp] at hp
    obtain ⟨v, h1, h2⟩ := det1 hp hk'
    exact ⟨v, [], _, h1⟩
  · cases o with
    | box x => exact ⟨_, _, _, hk.2.2⟩
    | alloc z => exact ⟨_, _, _, hk.2⟩
    | store size x y =>
      simp only [xopD] at hk
      split at hk
      · split at hk
        · exact ⟨_, _, _, hk.2.2.2⟩
        · exact hk.elim
      · exact hk.elim
    | append e size bytes x y =>
      simp only [xopD] at hk
      split at hk
      · obtain ⟨h1, hk⟩ := hk
        split at hk
        · exact ⟨_, _, _, hk.2.2.2⟩
        · split at hk
          · exact ⟨_, _, _, hk.2.2.2⟩
          · exact hk.elim
        · exact hk.elim
      · exact hk.elim
    | call f args =>
      obtain ⟨v, U, R, h1, h2⟩ := hk
      exact ⟨_, _, _, h2⟩
    | dyn x args =>
      simp only [xopD] at hk
      split at hk
      · obtain ⟨v, U, R, h1, h2⟩ := hk
        exact ⟨_, _, _, h2⟩
      · exact hk.elim
    | mapSet k e m x y =>
      simp only [xopD] at hk
      split at hk
      · split at hk
        · exact ⟨_, _, _, hk.2.2.2.2⟩
        · exact hk.elim
      · exact hk.elim
    | mkMap => exact hk.elim
    | eqNil => exact hk.elim
    | _ => simp [plainOp] at hp

theorem xacc_reach {base : Nat} {K : Acc → XS → Prop} : ∀ (is : List XI) (acc : Acc) (s : XS), xacc P base is acc K s → ∃ more s', K (acc ++ more) s'
  | [], acc, s, h => ⟨[], s, by simpa [xacc] using h⟩
  | i :: r, acc, s, h => by
    have go : ∀ p s1, xacc P base r (acc ++ [p]) K s1 → ∃ more s', K (acc ++ more) s' := fun p s1 h1 => by
      obtain ⟨more, s', h2⟩ := xacc_reach r _ s1 h1
      exact ⟨[p] ++ more, s', by rw [← List.append_assoc]; exact h2⟩
    simp only [xacc] at h
    split at h
    · obtain ⟨v, U, R, h1⟩ := xopD_reach h
      exact go _ _ h1
    · rename_i t want hg
      split at h
      · rename_i b hb
        by_cases hbw : b = want
        · obtain ⟨v, U, R, h1⟩ := xopD_reach (h.1 hbw)
          exact go _ _ h1
        · exact go _ _ (h.2 (by cases b <;> cases want <;> simp_all))
      · exact go _ _ h
      · exact h.elim

theorem xopD_imp {o : XOp} {idx : Nat} {K K' : PV → List (Nat × Content) → List Nat → Prop} (hk : xopD P o idx K s) (himp : ∀ v U R, K v U R → K' v U R) : xopD P o idx K' s := xopD_mono hk fun v U R _ _ h => himp v U R h

theorem okAll_snoc {anc : List (List Nat)} : ∀ (more : Acc) (k : Nat) (done : Acc) (p : List Nat × List Nat), okAll anc k done (p :: more) → okPairs (ancAt anc k) p.1 p.2 0 done
  | more, k, done, (U, R), h => h.1

theorem acc_draw_aux {anc : List (List Nat)} {base : Nat} {K : XS → Prop} : ∀ (is : List XI) (k : Nat) (acc : Acc) (s : XS), xacc P base is acc (fun acc' s => (∃ more, acc' = acc ++ more ∧ okAll anc k acc more) ∧ K s) s → xdraw P anc base k is acc K s
  | [], k, acc, s, h => h.2
  | i :: r, k, acc, s, h => by
    have fit : ∀ p s1, xacc P base r (acc ++ [p]) (fun acc' s => (∃ more, acc' = acc ++ more ∧ okAll anc k acc more) ∧ K s) s1 →
        okPairs (ancAt anc k) p.1 p.2 0 acc ∧ xdraw P anc base (k + 1) r (acc ++ [p]) K s1 := fun p s1 h1 => by
      have step : ∀ more, (∃ m2, acc ++ [p] ++ more = acc ++ m2 ∧ okAll anc k acc m2) → okPairs (ancAt anc k) p.1 p.2 0 acc ∧ okAll anc (k + 1) (acc ++ [p]) more := fun more ⟨m2, e, ho⟩ => by
        rw [List.append_assoc] at e
        have e2 := List.append_cancel_left e
        subst e2
        obtain ⟨U, R⟩ := p
        exact ⟨ho.1, ho.2⟩
      refine ⟨?_, acc_draw_aux r (k + 1) (acc ++ [p]) s1 ?_⟩
      · obtain ⟨more, s', h2⟩ := xacc_reach r _ s1 h1
        exact (step more h2.1).1
      · exact xacc_mono r _ s1 h1 fun more s' h2 => ⟨⟨more, rfl, (step more h2.1).2⟩, h2.2⟩
    simp only [xacc] at h
    simp only [xdraw]
    split at h
    · rename_i hg
      simp only [hg]
      exact xopD_imp h fun v U R h1 => fit (U.map (·.1), R) _ h1
    · rename_i t want hg
      simp only [hg]
      split at h
      · rename_i b hb
        simp only [hb]
        exact ⟨fun e => xopD_imp (h.1 e) fun v U R h1 => fit (U.map (·.1), R) _ h1, fun e => fit ([], []) _ (h.2 e)⟩
      · rename_i hb
        simp only [hb]
        exact fit ([], []) _ h
      · exact h.elim
where
  xacc_mono {base : Nat} {K K' : Acc → XS → Prop} : ∀ (is : List XI) (acc : Acc) (s : XS), xacc P base is acc K s → (∀ more s', K (acc ++ more) s' → K' (acc ++ more) s') → xacc P base is acc K' s
    | [], acc, s, h, hi => by have h0 : K acc s := h; have := hi [] s (by simpa using h0); show K' acc s; simpa using this
    | i :: r, acc, s, h, hi => by
      have go : ∀ p s1, xacc P base r (acc ++ [p]) K s1 → xacc P base r (acc ++ [p]) K' s1 := fun p s1 h1 =>
        xacc_mono r _ s1 h1 fun more s' hk => by rw [List.append_assoc] at hk ⊢; exact hi _ s' hk
      simp only [xacc] at h ⊢
      split at h
      · rename_i hg
        try simp only [hg]
        exact xopD_imp h fun v U R h1 => go _ _ h1
      · rename_i t want hg
        try simp only [hg]
        split at h
        · rename_i b hb
          try simp only [hb]
          exact ⟨fun e => xopD_imp (h.1 e) fun v U R h1 => go _ _ h1, fun e => go _ _ (h.2 e)⟩
        · rename_i hb
          try simp only [hb]
          exact go _ _ h
        · exact h.elim

theorem x_regionD {n : Nat} {Q : XE → XS → Prop} {f : Nat → PV} {st l : List Content} {is : List XI} {anc : List (List Nat)} {nf n0 k : Nat} (hn : st.length = n0) (hk : l.length = k)
    (h : xacc P (n0 + k) is [] (fun acc s => okAll anc 0 [] acc ∧ Q .normal s) ⟨f, st ++ (l ++ List.replicate nf .fresh)⟩) : xexec P n (.regionD is anc nf) Q ⟨f, st ++ l⟩ := by
  subst hn; subst hk
  simp only [xexec, List.append_assoc, List.length_append]
  exact acc_draw_aux is 0 [] _ (acc_draw_aux.xacc_mono is [] _ h fun more s' hk => ⟨⟨more, rfl, by simpa using hk.1⟩, hk.2⟩)
end

section
variable {P : Program} {base : Nat} {acc : Acc} {r : List XI} {K : Acc → XS → Prop} {f : Nat → PV} {st : List Content} {d nm : Nat}
theorem runA_plain {o : XOp} {R : List Nat} (hp : plainOp o = true) (hR : readsOf o ⟨f, st⟩ = R) (h : xop P o (fun v _ => xacc P base r (acc ++ [([], R)]) K ⟨upd f d v, st⟩) ⟨f, st⟩) : xacc P base (⟨some d, o, none, nm⟩ :: r) acc K ⟨f, st⟩ := by
  subst hR
  show xopD P o (base + nm) (fun v U R => xacc P base r (acc ++ [(U.map (·.1), R)]) K ⟨upd f d v, setAll st U⟩) ⟨f, st⟩
  cases o <;> first | exact h | simp [plainOp] at hp
theorem runA_nil (h : K acc ⟨f, st⟩) : xacc P base [] acc K ⟨f, st⟩ := h
theorem p_move {x : XA} {v : PV} (hx : ev ⟨f, st⟩ x = v) (h : xacc P base r (acc ++ [([], [])]) K ⟨upd f d v, st⟩) : xacc P base (⟨some d, .move x, none, nm⟩ :: r) acc K ⟨f, st⟩ := by
  subst hx; exact runA_plain rfl (rfl) h
theorem p_pick {c x y : XA} {t : Bool} {p q : PV} (hc : ev ⟨f, st⟩ c = .d (.bool t)) (hx : ev ⟨f, st⟩ x = p) (hy : ev ⟨f, st⟩ y = q) (h1 : t = true → xacc P base r (acc ++ [([], [])]) K ⟨upd f d p, st⟩) (h2 : t = false → xacc P base r (acc ++ [([], [])]) K ⟨upd f d q, st⟩) :
    xacc P base (⟨some d, .pick c x y, none, nm⟩ :: r) acc K ⟨f, st⟩ := by
  refine runA_plain rfl (rfl) ?_
  simp only [xop, hc, hx, hy]
  cases p <;> first | (exact ⟨h1, h2⟩) | skip
  rename_i a
  cases a <;> first | (exact ⟨h1, h2⟩) | skip
  rename_i a
  cases q <;> first | (exact ⟨h1, h2⟩) | skip
  rename_i b
  cases b <;> first | (exact ⟨h1, h2⟩) | skip
  cases t
  · exact h2 rfl
  · exact h1 rfl
theorem p_pick_t {c x y : XA} {p : PV} (hc : ev ⟨f, st⟩ c = .d (.bool true)) (hx : ev ⟨f, st⟩ x = p) (h1 : xacc P base r (acc ++ [([], [])]) K ⟨upd f d p, st⟩) :
    xacc P base (⟨some d, .pick c x y, none, nm⟩ :: r) acc K ⟨f, st⟩ := p_pick hc hx rfl (fun _ => h1) (fun e => (by cases e))
theorem p_pick_f {c x y : XA} {q : PV} (hc : ev ⟨f, st⟩ c = .d (.bool false)) (hx : ev ⟨f, st⟩ y = q) (h1 : xacc P base r (acc ++ [([], [])]) K ⟨upd f d q, st⟩) :
    xacc P base (⟨some d, .pick c x y, none, nm⟩ :: r) acc K ⟨f, st⟩ := p_pick hc rfl hx (fun e => (by cases e)) (fun _ => h1)
theorem p_build {zero : List PV} {parts : List (Nat × Nat × XA)} {cs : List PV} (h1 : fillOk ⟨f, st⟩ zero.length parts) (h2 : fillP ⟨f, st⟩ zero parts = cs) (h : xacc P base r (acc ++ [([], [])]) K ⟨upd f d (.agg cs), st⟩) : xacc P base (⟨some d, .build zero parts, none, nm⟩ :: r) acc K ⟨f, st⟩ := by
  subst h2; exact runA_plain rfl (rfl) ⟨h1, h⟩
theorem p_loadD {size : Nat} {x : XA} {cells : List D} {v : D} (hx : ev ⟨f, st⟩ x = .dp cells) (hc : cells[0]? = some v) (h : xacc P base r (acc ++ [([], [])]) K ⟨upd f d (.d v), st⟩) :
    xacc P base (⟨some d, .load false size x, none, nm⟩ :: r) acc K ⟨f, st⟩ := by
  refine runA_plain (R := []) rfl (by simp only [readsOf, hx]) ?_; simp only [xop, hx, Bool.false_eq_true, if_false, hc]; exact h
theorem p_loadDA {size : Nat} {x : XA} {cells : List D} {cs : List PV} (hx : ev ⟨f, st⟩ x = .dp cells) (hl : size ≤ cells.length) (hc : (cells.take size).map .d = cs) (h : xacc P base r (acc ++ [([], [])]) K ⟨upd f d (.agg cs), st⟩) :
    xacc P base (⟨some d, .load true size x, none, nm⟩ :: r) acc K ⟨f, st⟩ := by
  subst hc; refine runA_plain (R := []) rfl (by simp only [readsOf, hx]) ?_; simp only [xop, hx, if_true]; exact ⟨hl, h⟩
theorem p_nilc {x : XA} {b off : Nat} (hx : ev ⟨f, st⟩ x = .ptr b off) (h : xacc P base r (acc ++ [([], [])]) K ⟨upd f d (.ptr b off), st⟩) : xacc P base (⟨some d, .nilCheck x, none, nm⟩ :: r) acc K ⟨f, st⟩ := by
  refine runA_plain rfl (rfl) ?_; simp only [xop, hx]; exact h
theorem p_nilcD {x : XA} {cells : List D} (hx : ev ⟨f, st⟩ x = .dp cells) (h : xacc P base r (acc ++ [([], [])]) K ⟨upd f d (.dp cells), st⟩) : xacc P base (⟨some d, .nilCheck x, none, nm⟩ :: r) acc K ⟨f, st⟩ := by
  refine runA_plain rfl (rfl) ?_; simp only [xop, hx]; exact h
theorem p_bin {op : BinOp} {x y : XA} {a b : D} (hx : ev ⟨f, st⟩ x = .d a) (hy : ev ⟨f, st⟩ y = .d b) (h : binK op (fun v => xacc P base r (acc ++ [([], [])]) K ⟨upd f d (.d v), st⟩) a b) : xacc P base (⟨some d, .bin op x y, none, nm⟩ :: r) acc K ⟨f, st⟩ := by
  refine runA_plain rfl (rfl) ?_; simp only [xop, hx, hy]; exact h
theorem p_eqB {neg : Bool} {x y : XA} {a b : Bool} (hx : ev ⟨f, st⟩ x = .d (.bool a)) (hy : ev ⟨f, st⟩ y = .d (.bool b)) (h : xacc P base r (acc ++ [([], [])]) K ⟨upd f d (.d (.bool (if neg then !(a == b) else a == b))), st⟩) : xacc P base (⟨some d, .eqBool neg x y, none, nm⟩ :: r) acc K ⟨f, st⟩ := by
  refine runA_plain rfl (rfl) ?_; simp only [xop, hx, hy]; exact h
theorem p_not {x : XA} {b : Bool} (hx : ev ⟨f, st⟩ x = .d (.bool b)) (h : xacc P base r (acc ++ [([], [])]) K ⟨upd f d (.d (.bool (!b))), st⟩) : xacc P base (⟨some d, .not x, none, nm⟩ :: r) acc K ⟨f, st⟩ := by
  refine runA_plain rfl (rfl) ?_; simp only [xop, hx]; exact h
theorem p_notD {x : XA} {p : Prop} {_ : Decidable p} (hx : ev ⟨f, st⟩ x = .d (.bool (decide p))) (h : xacc P base r (acc ++ [([], [])]) K ⟨upd f d (.d (.bool (decide (¬ p)))), st⟩) : xacc P base (⟨some d, .not x, none, nm⟩ :: r) acc K ⟨f, st⟩ := by
  refine p_not hx ?_
  have e : (!decide p) = decide (¬ p) := by simp
  rw [e]; exact h
theorem p_neg {x : XA} {k : IntKind} {n : Int} (hx : ev ⟨f, st⟩ x = .d (.int k n)) (h : xacc P base r (acc ++ [([], [])]) K ⟨upd f d (.d (.int k (k.wrap (0 - n)))), st⟩) : xacc P base (⟨some d, .neg x, none, nm⟩ :: r) acc K ⟨f, st⟩ := by
  refine runA_plain rfl (rfl) ?_; simp only [xop, hx]; exact h
theorem p_toInt {x : XA} {k k' : IntKind} {n : Int} (hx : ev ⟨f, st⟩ x = .d (.int k' n)) (h : xacc P base r (acc ++ [([], [])]) K ⟨upd f d (.d (.int k (k.wrap n))), st⟩) : xacc P base (⟨some d, .toInt k x, none, nm⟩ :: r) acc K ⟨f, st⟩ := by
  refine runA_plain rfl (rfl) ?_; simp only [xop, hx]; exact h
theorem p_toStr {x : XA} {b : ByteArray} (hx : ev ⟨f, st⟩ x = .d (.str b)) (h : xacc P base r (acc ++ [([], [])]) K ⟨upd f d (.d (.str b)), st⟩) : xacc P base (⟨some d, .toStr x, none, nm⟩ :: r) acc K ⟨f, st⟩ := by
  refine runA_plain rfl (rfl) ?_; simp only [xop, hx]; exact h
theorem p_toBytes {x : XA} {b : ByteArray} (hx : ev ⟨f, st⟩ x = .d (.str b)) (h : xacc P base r (acc ++ [([], [])]) K ⟨upd f d (.d (.sl (bytesRows b))), st⟩) : xacc P base (⟨some d, .toBytes x, none, nm⟩ :: r) acc K ⟨f, st⟩ := by
  refine runA_plain rfl (rfl) ?_; simp only [xop, hx]; exact h
theorem p_fa {off o : Nat} {x : XA} {b : Nat} (hx : ev ⟨f, st⟩ x = .ptr b o) {o' : Nat} (ho : o + off = o') (h : xacc P base r (acc ++ [([], [])]) K ⟨upd f d (.ptr b o'), st⟩) : xacc P base (⟨some d, .fieldAddr off x, none, nm⟩ :: r) acc K ⟨f, st⟩ := by
  subst ho; refine runA_plain rfl (rfl) ?_; simp only [xop, hx]; exact h
theorem p_faD {off : Nat} {x : XA} {cells cells' : List D} (hx : ev ⟨f, st⟩ x = .dp cells) (ho : cells.drop off = cells') (h : xacc P base r (acc ++ [([], [])]) K ⟨upd f d (.dp cells'), st⟩) : xacc P base (⟨some d, .fieldAddr off x, none, nm⟩ :: r) acc K ⟨f, st⟩ := by
  subst ho; refine runA_plain rfl (rfl) ?_; simp only [xop, hx]; exact h
theorem p_field {off size : Nat} {x : XA} {cells : List PV} {p : PV} (hx : ev ⟨f, st⟩ x = .agg cells) (hc : cells[off]? = some p) (h : xacc P base r (acc ++ [([], [])]) K ⟨upd f d p, st⟩) : xacc P base (⟨some d, .field false off size x, none, nm⟩ :: r) acc K ⟨f, st⟩ := by
  refine runA_plain rfl (rfl) ?_; simp only [xop, hx, Bool.false_eq_true, if_false, hc]; exact h
theorem p_fieldA {off size : Nat} {x : XA} {cells cs : List PV} (hx : ev ⟨f, st⟩ x = .agg cells) (hl : off + size ≤ cells.length) (hc : (cells.drop off).take size = cs) (h : xacc P base r (acc ++ [([], [])]) K ⟨upd f d (.agg cs), st⟩) : xacc P base (⟨some d, .field true off size x, none, nm⟩ :: r) acc K ⟨f, st⟩ := by
  subst hc; refine runA_plain rfl (rfl) ?_; simp only [xop, hx, if_true]; exact ⟨hl, h⟩
theorem p_idxS {x i : XA} {b : ByteArray} {k : IntKind} {n : Int} (hx : ev ⟨f, st⟩ x = .d (.str b)) (hi : ev ⟨f, st⟩ i = .d (.int k n)) (h0 : 0 ≤ n) (h1 : n < b.size) (h : xacc P base r (acc ++ [([], [])]) K ⟨upd f d (.d (.int .u8 (byteAt b n.toNat))), st⟩) : xacc P base (⟨some d, .indexStr x i, none, nm⟩ :: r) acc K ⟨f, st⟩ := by
  refine runA_plain rfl (rfl) ?_; simp only [xop, hx, hi]; exact ⟨h0, h1, h⟩
theorem p_lenS {x : XA} {b : ByteArray} (hx : ev ⟨f, st⟩ x = .d (.str b)) (h : xacc P base r (acc ++ [([], [])]) K ⟨upd f d (.d (.int .i64 b.size)), st⟩) : xacc P base (⟨some d, .lenS x, none, nm⟩ :: r) acc K ⟨f, st⟩ := by
  refine runA_plain rfl (rfl) ?_; simp only [xop, hx]; exact h
theorem p_mm {mx : Bool} {x : XA} {xs : List XA} {k : IntKind} {n : Int} (hx : ev ⟨f, st⟩ x = .d (.int k n)) (h : mmD mx ⟨f, st⟩ n xs (fun v => xacc P base r (acc ++ [([], [])]) K ⟨upd f d (.d (.int k v)), st⟩) k) : xacc P base (⟨some d, .minmax mx x xs, none, nm⟩ :: r) acc K ⟨f, st⟩ := by
  refine runA_plain rfl (rfl) ?_; simp only [xop, hx]; exact h
theorem p_sliceS {x : XA} {lo hi : Option XA} {b : ByteArray} (hx : ev ⟨f, st⟩ x = .d (.str b)) (h : bnd ⟨f, st⟩ 0 (fun l => bnd ⟨f, st⟩ b.size (fun h => 0 ≤ l ∧ l ≤ h ∧ h ≤ b.size ∧ xacc P base r (acc ++ [([], [])]) K ⟨upd f d (.d (.str (b.extract l.toNat h.toNat))), st⟩) hi) lo) : xacc P base (⟨some d, .sliceS x lo hi, none, nm⟩ :: r) acc K ⟨f, st⟩ := by
  refine runA_plain rfl (rfl) ?_; simp only [xop, hx]; exact h
theorem p_ext {x : XA} {i : Nat} {vs : List PV} {p : PV} (hx : ev ⟨f, st⟩ x = .tup vs) (hp : vs[i]? = some p) (h : xacc P base r (acc ++ [([], [])]) K ⟨upd f d p, st⟩) : xacc P base (⟨some d, .extract x i, none, nm⟩ :: r) acc K ⟨f, st⟩ := by
  refine runA_plain rfl (rfl) ?_; simp only [xop, hx, hp]; exact h
theorem p_mkfn {g : FuncId} {a b : List XA} {ps qs : List PV} (ha : a.map (ev ⟨f, st⟩) = ps) (hb : b.map (ev ⟨f, st⟩) = qs) (h : xacc P base r (acc ++ [([], [])]) K ⟨upd f d (.fn g ps qs), st⟩) : xacc P base (⟨some d, .mkfn g a b, none, nm⟩ :: r) acc K ⟨f, st⟩ := by
  subst ha; subst hb; exact runA_plain rfl (rfl) h
theorem p_pickD {c x y : XA} {p : Prop} {_ : Decidable p} {u v : PV} (hc : ev ⟨f, st⟩ c = .d (.bool (decide p))) (hx : ev ⟨f, st⟩ x = u) (hy : ev ⟨f, st⟩ y = v) (h1 : p → xacc P base r (acc ++ [([], [])]) K ⟨upd f d u, st⟩) (h2 : ¬ p → xacc P base r (acc ++ [([], [])]) K ⟨upd f d v, st⟩) :
    xacc P base (⟨some d, .pick c x y, none, nm⟩ :: r) acc K ⟨f, st⟩ := p_pick hc hx hy (fun e => h1 (of_decide_eq_true e)) (fun e => h2 (of_decide_eq_false e))
theorem p_load {size : Nat} {x : XA} {b off : Nat} {cells : List PV} {p : PV} (hx : ev ⟨f, st⟩ x = .ptr b off) (hb : st[b]? = some (.box cells)) (hc : cells[off]? = some p) (h : xacc P base r (acc ++ [([], [b])]) K ⟨upd f d p, st⟩) :
    xacc P base (⟨some d, .load false size x, none, nm⟩ :: r) acc K ⟨f, st⟩ := by
  refine runA_plain (R := [b]) rfl (by simp only [readsOf, hx]) ?_; simp only [xop, hx, hb, Bool.false_eq_true, if_false, hc]; exact h
theorem p_loadA {size : Nat} {x : XA} {b off : Nat} {cells cs : List PV} (hx : ev ⟨f, st⟩ x = .ptr b off) (hb : st[b]? = some (.box cells)) (hl : off + size ≤ cells.length) (hc : (cells.drop off).take size = cs) (h : xacc P base r (acc ++ [([], [b])]) K ⟨upd f d (.agg cs), st⟩) :
    xacc P base (⟨some d, .load true size x, none, nm⟩ :: r) acc K ⟨f, st⟩ := by
  subst hc; refine runA_plain (R := [b]) rfl (by simp only [readsOf, hx]) ?_; simp only [xop, hx, hb, if_true]; exact ⟨hl, h⟩

theorem p_lenR {x : XA} {rows : List (List D)} (hx : ev ⟨f, st⟩ x = .d (.sl rows)) (h : xacc P base r (acc ++ [([], [])]) K ⟨upd f d (.d (.int .i64 rows.length)), st⟩) : xacc P base (⟨some d, .lenR x, none, nm⟩ :: r) acc K ⟨f, st⟩ := by
  refine runA_plain (R := []) rfl (by simp only [readsOf, hx, tokOf]) ?_
  simp only [xop, hx, asRows]; exact h
theorem p_idx {size : Nat} {x i : XA} {rows : List (List D)} {k : IntKind} {n : Int} (hx : ev ⟨f, st⟩ x = .d (.sl rows)) (hi : ev ⟨f, st⟩ i = .d (.int k n)) (h0 : 0 ≤ n) (h1 : n < rows.length) {row : List D} (hr : rows[n.toNat]? = some row) (hl : row.length = size)
    (h : xacc P base r (acc ++ [([], [])]) K ⟨upd f d (.dp row), st⟩) : xacc P base (⟨some d, .indexAddr size x i, none, nm⟩ :: r) acc K ⟨f, st⟩ := by
  refine runA_plain (R := []) rfl (by simp only [readsOf, hx, tokOf]) ?_
  simp only [xop, hx, hi, asRows]; exact ⟨h0, h1, fun row' hr' => by rw [hr] at hr'; cases hr'; exact ⟨hl, h⟩⟩
theorem p_slice {size : Nat} {parts : List XA} {rows : List (List D)} {R : List Nat} (h1 : rowsOf ⟨f, st⟩ size parts = some rows) (hR : tokC ⟨f, st⟩ parts = R) (h : xacc P base r (acc ++ [([], R)]) K ⟨upd f d (.ex rows), st⟩) : xacc P base (⟨some d, .buildSlice size parts, none, nm⟩ :: r) acc K ⟨f, st⟩ := by
  refine runA_plain rfl hR ?_
  simp only [xop, h1]; exact h
theorem p_sliceR {size : Nat} {x : XA} {lo hi : Option XA} {rows : List (List D)} (hx : ev ⟨f, st⟩ x = .d (.sl rows)) (hz : ∀ row, row ∈ rows → row.length = size) (h : bnd ⟨f, st⟩ 0 (fun l => bnd ⟨f, st⟩ rows.length (fun h => 0 ≤ l ∧ l ≤ h ∧ h ≤ rows.length ∧ xacc P base r (acc ++ [([], [])]) K ⟨upd f d (.d (.sl ((rows.take h.toNat).drop l.toNat))), st⟩) hi) lo) : xacc P base (⟨some d, .sliceR size x lo hi none, none, nm⟩ :: r) acc K ⟨f, st⟩ := by
  refine runA_plain (R := []) rfl (by simp only [readsOf, hx, tokOf]) ?_
  simp only [xop, hx, asRows]; exact ⟨hz, h⟩
theorem p_store {size : Nat} {x y : XA} {b off : Nat} {cells cs : List PV} (hx : ev ⟨f, st⟩ x = .ptr b off) (hb : st[b]? = some (.box cells)) {py : PV} (hy : ev ⟨f, st⟩ y = py) (hc : py.cells = cs) (hl : cs.length = size) (hl2 : off + size ≤ cells.length) (h1 : cs.all PV.one = true)
    {cells' : List PV} (hs : splice cells off cs = cells') {st' : List Content} (hst : st.set b (.box cells') = st') (h : xacc P base r (acc ++ [([b], [b])]) K ⟨f, st'⟩) : xacc P base (⟨none, .store size x y, none, nm⟩ :: r) acc K ⟨f, st⟩ := by
  subst hy; subst hc; subst hs; subst hst
  simp only [xacc, xopD, hx, hb]; exact ⟨hl, hl2, h1, h⟩
theorem p_mapSet {kt e : TypeId} {mm x y : XA} {t : Nat} {b : ByteArray} {v : Bool} {ks : List ByteArray} (hm : ev ⟨f, st⟩ mm = .map t) (hx : ev ⟨f, st⟩ x = .d (.str b)) (hy : ev ⟨f, st⟩ y = .d (.bool v)) (ht : st[t]? = some (.map kt e ks))
    (hb : b.size ≤ 9223372036854775807) (hn : ks.length < 9223372036854775807) {st' : List Content} (hst : st.set t (.map kt e (ks ++ [b])) = st') (h : xacc P base r (acc ++ [([t], [t])]) K ⟨f, st'⟩) : xacc P base (⟨none, .mapSet kt e mm x y, none, nm⟩ :: r) acc K ⟨f, st⟩ := by
  subst hst
  simp only [xacc, xopD, hm, hx, hy, ht]; exact ⟨trivial, trivial, hb, hn, h⟩
/-- A call that keeps the store. -/
theorem p_call {g : FuncId} {args : List XA} {vs : List PV} {v : PV} {R : List Nat} (ha : args.map (fun a => frzA st (ev ⟨f, st⟩ a)) = vs) (hR : tokArgs ⟨f, st⟩ args = R) (h : ∀ st2, ACalls P g vs st2 (fun p st' => p = v ∧ st' = st2)) (hk : xacc P base r (acc ++ [([], R)]) K ⟨upd f d v, st⟩) : xacc P base (⟨some d, .call g args, none, nm⟩ :: r) acc K ⟨f, st⟩ := by
  subst ha; subst hR
  exact ⟨v, [], [], fun st2 _ _ => (h st2).mono fun p st' hp => .inl hp, hk⟩
variable {l : List Content} {n0 k : Nat}
theorem p_appX {e size bytes : Nat} {x y : XA} {rows ys : List (List D)} (hn : st.length = n0) (hk : l[k + nm]? = some .fresh) {py : PV} (hpy : ev ⟨f, st ++ l⟩ y = py) (hy : asRows (st ++ l) py = some ys) (hz : ∀ row, row ∈ ys → row.length = size) (hx : ev ⟨f, st ++ l⟩ x = .ex rows) (hzx : ∀ row, row ∈ rows → row.length = size) (hb : (rows.length + ys.length) * bytes ≤ 140737488355328)
    (h : xacc P (n0 + k) r (acc ++ [([n0 + (k + nm)], (n0 + (k + nm)) :: tokOf py)]) K ⟨upd f d (.own (n0 + (k + nm)) 1), st ++ l.set (k + nm) (.row e 1 (rows ++ ys))⟩) : xacc P (n0 + k) (⟨some d, .append e size bytes x y, none, nm⟩ :: r) acc K ⟨f, st ++ l⟩ := by
  subst hn; subst hpy
  show xopD P (.append e size bytes x y) (st.length + k + nm) (fun v U R => xacc P (st.length + k) r (acc ++ [(U.map (·.1), R)]) K ⟨upd f d v, setAll (st ++ l) U⟩) ⟨f, st ++ l⟩
  rw [Nat.add_assoc]
  simp only [xopD, hx, hy]
  refine ⟨hz, (g_ext rfl _).trans hk, hzx, hb, ?_⟩
  simp only [setAll, s_ext rfl]
  exact h
theorem p_appO {e size bytes : Nat} {x y : XA} {t ver : Nat} {rows ys : List (List D)} {py : PV} (hpy : ev ⟨f, st⟩ y = py) (hy : asRows st py = some ys) (hz : ∀ row, row ∈ ys → row.length = size) (hx : ev ⟨f, st⟩ x = .own t ver) (ht : st[t]? = some (.row e ver rows)) (hb : (rows.length + ys.length) * bytes ≤ 140737488355328)
    {st' : List Content} (hst : st.set t (.row e (ver + 1) (rows ++ ys)) = st') (h : xacc P base r (acc ++ [([t], t :: tokOf py)]) K ⟨upd f d (.own t (ver + 1)), st'⟩) : xacc P base (⟨some d, .append e size bytes x y, none, nm⟩ :: r) acc K ⟨f, st⟩ := by
  subst hst; subst hpy
  simp only [xacc, xopD, hx, hy, ht]; exact ⟨hz, trivial, trivial, hb, h⟩
/-! guards -/
theorem q_run {o : XOp} {ds : Option Nat} {t : Nat} {want : Bool} (ht : f t = .d (.bool want)) (h : xacc P base (⟨ds, o, none, nm⟩ :: r) acc K ⟨f, st⟩) : xacc P base (⟨ds, o, some (t, want), nm⟩ :: r) acc K ⟨f, st⟩ := by
  simp only [xacc, ht]; exact ⟨fun _ => h, fun e => (by cases want <;> cases e)⟩
theorem q_skip {o : XOp} {t : Nat} {want : Bool} (ht : f t = .d (.bool (!want))) (h : xacc P base r (acc ++ [([], [])]) K ⟨upd f d (.tup []), st⟩) : xacc P base (⟨some d, o, some (t, want), nm⟩ :: r) acc K ⟨f, st⟩ := by
  simp only [xacc, ht]; exact ⟨fun e => (by cases want <;> cases e), fun _ => h⟩
theorem q_skip0 {o : XOp} {t : Nat} {want : Bool} (ht : f t = .d (.bool (!want))) (h : xacc P base r (acc ++ [([], [])]) K ⟨f, st⟩) : xacc P base (⟨none, o, some (t, want), nm⟩ :: r) acc K ⟨f, st⟩ := by
  simp only [xacc, ht]; exact ⟨fun e => (by cases want <;> cases e), fun _ => h⟩
theorem q_none {o : XOp} {t : Nat} {want : Bool} (ht : f t = .tup []) (h : xacc P base r (acc ++ [([], [])]) K ⟨upd f d (.tup []), st⟩) : xacc P base (⟨some d, o, some (t, want), nm⟩ :: r) acc K ⟨f, st⟩ := by
  simp only [xacc, ht]; exact h
theorem q_split {o : XOp} {ds : Option Nat} {t : Nat} {want b : Bool} (ht : f t = .d (.bool b)) (h1 : b = true → xacc P base (⟨ds, o, some (t, want), nm⟩ :: r) acc K ⟨upd f t (.d (.bool true)), st⟩) (h2 : b = false → xacc P base (⟨ds, o, some (t, want), nm⟩ :: r) acc K ⟨upd f t (.d (.bool false)), st⟩) :
    xacc P base (⟨ds, o, some (t, want), nm⟩ :: r) acc K ⟨f, st⟩ := by
  cases b
  · rw [← upd_self ht]; exact h2 rfl
  · rw [← upd_self ht]; exact h1 rfl
theorem q_splitD {o : XOp} {ds : Option Nat} {t : Nat} {want : Bool} {p : Prop} {_ : Decidable p} (ht : f t = .d (.bool (decide p))) (h1 : p → xacc P base (⟨ds, o, some (t, want), nm⟩ :: r) acc K ⟨upd f t (.d (.bool true)), st⟩) (h2 : ¬ p → xacc P base (⟨ds, o, some (t, want), nm⟩ :: r) acc K ⟨upd f t (.d (.bool false)), st⟩) :
    xacc P base (⟨ds, o, some (t, want), nm⟩ :: r) acc K ⟨f, st⟩ := q_split ht (fun e => h1 (of_decide_eq_true e)) (fun e => h2 (of_decide_eq_false e))
end

section
variable {st l : List Content} {x n0 : Nat} {c0 c c' : Content}
theorem g_set (h : st[x]? = some c0) : (st.set x c ++ l)[x]? = some c := by
  have hl := (List.getElem?_eq_some_iff.1 h).1
  rw [List.getElem?_append_left (by simpa using hl)]; simp [hl]
theorem s_set (h : st[x]? = some c0) : (st.set x c ++ l).set x c' = st.set x c' ++ l := by
  have hl := (List.getElem?_eq_some_iff.1 h).1
  rw [List.set_append_left _ _ (by simpa using hl), List.set_set]
end
section
variable {s : XS} {f : Nat → PV} {st : List Content} {n off size : Nat} {a : XA} {r : List (Nat × Nat × XA)} {p : PV} {cs acc acc' out : List PV}
theorem fo_nil : fillOk s n [] := trivial
theorem fo_cons (h : ev ⟨f, st⟩ a = p) (hc : p.cells = cs) (hl : (cs.length == size) = true) (hle : off + size ≤ n) (h1 : cs.all PV.one = true) (hr : fillOk ⟨f, st⟩ n r) : fillOk ⟨f, st⟩ n ((off, size, a) :: r) := by
  subst h; subst hc
  exact ⟨by simpa using hl, hle, h1, hr⟩
theorem fp_nil : fillP s acc [] = acc := rfl
theorem fp_cons (h : ev ⟨f, st⟩ a = p) (hc : p.cells = cs) (hs : splice acc off cs = acc') (hr : fillP ⟨f, st⟩ acc' r = out) : fillP ⟨f, st⟩ acc ((off, size, a) :: r) = out := by
  subst h; subst hc; subst hs; exact hr
end

section
variable {st : List Content} {x : D} {ps qs : List PV} {rows : List (List D)}
theorem f1_d : frz1 st (.d x) = .d x := rfl
theorem f1_ex : frz1 st (.ex rows) = .d (.sl rows) := rfl
theorem f1_own {t e ver : Nat} (h : st[t]? = some (.row e ver rows)) : frz1 st (.own t ver) = .d (.sl rows) := f_own h
theorem f1_agg (h : ps.map (frz st) = qs) : frz1 st (.agg ps) = .agg qs := by subst h; rfl
theorem p_list {n : Nat} {p p' : PV} {more : List PV} (h : (p :: p' :: more).map (frz1 st) = qs) (hb : belowB.belowL n qs = true) : cutV n (frzA st (pack (p :: p' :: more))) = .tup qs := by
  subst h
  exact v_tup hb
theorem f1_nil : [].map (frz1 st) = [] := rfl
theorem f1_cons {p q : PV} (h : frz1 st p = q) (hr : ps.map (frz1 st) = qs) : (p :: ps).map (frz1 st) = q :: qs := by subst h; subst hr; rfl
end

/-- A store that began as another one. -/
def Ext (st st' : List Content) : Prop := ∃ ex, st' = st ++ ex
theorem Ext.refl (st : List Content) : Ext st st := ⟨[], by simp⟩
theorem Ext.base (st l : List Content) : Ext st (st ++ l) := ⟨l, rfl⟩
theorem Ext.app {st st' : List Content} (h : Ext st st') (l : List Content) : Ext st (st' ++ l) := by obtain ⟨ex, rfl⟩ := h; exact ⟨ex ++ l, by simp⟩
theorem Ext.set {st st' : List Content} {x : Nat} {c : Content} (h : Ext st st') (hx : st.length ≤ x) : Ext st (st'.set x c) := by
  obtain ⟨ex, rfl⟩ := h
  exact ⟨ex.set (x - st.length) c, by rw [List.set_append_right _ _ hx]⟩
theorem Ext.len {st st' : List Content} (h : Ext st st') : st.length ≤ st'.length := by obtain ⟨ex, rfl⟩ := h; simp
theorem cutS_ext {st st' : List Content} (hw : WF st) (h : Ext st st') : cutS st.length st' = st := by obtain ⟨ex, rfl⟩ := h; exact cutS_wf hw
theorem get_set_ne {st : List Content} {x y : Nat} {c c0 : Content} (h : st[x]? = some c0) (hne : (y == x) = false) : (st.set y c)[x]? = some c0 := by
  rw [List.getElem?_set_ne (by simpa using hne)]; exact h
theorem get_set_same {st : List Content} {x : Nat} {c c0 : Content} (h : st[x]? = some c0) : (st.set x c)[x]? = some c := by
  have := (List.getElem?_eq_some_iff.1 h).1; simp [this]

section
variable {f : Nat → PV} {st : List Content} {a : XA} {l : List XA} {p : PV} {r1 r2 : List Nat}
theorem tc_nil {s : XS} : tokC s [] = [] := rfl
theorem tc_cons (h : ev ⟨f, st⟩ a = p) (ht : tokL p.cells = r1) (hr : tokC ⟨f, st⟩ l = r2) : tokC ⟨f, st⟩ (a :: l) = r1 ++ r2 := by subst h; subst ht; subst hr; rfl
theorem ta_nil {s : XS} : tokArgs s [] = [] := rfl
theorem ta_cons (h : ev ⟨f, st⟩ a = p) (ht : tokA p = r1) (hr : tokArgs ⟨f, st⟩ l = r2) : tokArgs ⟨f, st⟩ (a :: l) = r1 ++ r2 := by subst h; subst ht; subst hr; rfl
end

theorem f_mapd {st : List Content} : ∀ {ds : List D}, (ds.map PV.d).map (frz st) = ds.map PV.d
  | [] => rfl
  | d :: ds => by
    have := f_mapd (st := st) (ds := ds)
    simp only [List.map_cons, this, frz]
end Go.Ax
