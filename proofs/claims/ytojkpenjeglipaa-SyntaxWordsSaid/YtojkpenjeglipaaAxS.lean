/- The machine, step by step: one rule for each operation. -/
import Derived.Test.YtojkpenjeglipaaAxIt
set_option linter.unusedVariables false
namespace Go.Ax

theorem wrap_i64 {n : Int} (h0 : -9223372036854775808 ≤ n) (h1 : n < 9223372036854775808) : IntKind.i64.wrap n = n := by
  simp [IntKind.wrap, IntKind.bits, IntKind.signed]
  omega

theorem ACalls.then {P : Program} {f : FuncId} {args : List PV} {st : List Content} {v : PV} {K : PV → List Content → Prop} (h : ACalls P f args st (fun p st' => p = v ∧ st' = st)) (hk : K v st) : ACalls P f args st K :=
  h.mono fun p st' hp => by rw [hp.1, hp.2]; exact hk

def u0 : Nat → PV := fun _ => .undef
theorem args0_0 : args0 [] = u0 := by funext i; simp [args0, u0]
theorem args0_1 (a : PV) : args0 [a] = upd u0 0 a := by
  funext i; simp only [args0, upd, u0]; cases i with | zero => rfl | succ i => simp
theorem args0_2 (a b : PV) : args0 [a, b] = upd (upd u0 1 b) 0 a := by
  funext i; simp only [args0, upd, u0]; match i with | 0 => rfl | 1 => rfl | i + 2 => simp
theorem args0_3 (a b c : PV) : args0 [a, b, c] = upd (upd (upd u0 2 c) 1 b) 0 a := by
  funext i; simp only [args0, upd, u0]; match i with | 0 => rfl | 1 => rfl | 2 => rfl | i + 3 => simp
theorem args0_4 (a b c d : PV) : args0 [a, b, c, d] = upd (upd (upd (upd u0 3 d) 2 c) 1 b) 0 a := by
  funext i; simp only [args0, upd, u0]; match i with | 0 => rfl | 1 => rfl | 2 => rfl | 3 => rfl | i + 4 => simp
theorem args0_5 (a b c d e : PV) : args0 [a, b, c, d, e] = upd (upd (upd (upd (upd u0 4 e) 3 d) 2 c) 1 b) 0 a := by
  funext i; simp only [args0, upd, u0]; match i with | 0 => rfl | 1 => rfl | 2 => rfl | 3 => rfl | 4 => rfl | i + 5 => simp

/-- A region's operations are carried out as they stand: with new names behind all, or with names that were set aside. -/
inductive Mode where
  | seq
  | pre (base : Nat)
def xrun (P : Program) : Mode → List XI → (XS → Prop) → XS → Prop
  | .seq => xops P
  | .pre base => xpre P base

section
variable {P : Program} {m : Mode} {r : List XI} {K : XS → Prop} {f : Nat → PV} {st : List Content} {d nm : Nat}

theorem run_plain {o : XOp} (hp : plainOp o = true) (h : xop P o (fun v _ => xrun P m r K ⟨upd f d v, st⟩) ⟨f, st⟩) : xrun P m (⟨some d, o, none, nm⟩ :: r) K ⟨f, st⟩ := by
  cases m with
  | seq =>
    show xop P o (fun v st' => xops P r K ⟨upd f d v, st'⟩) ⟨f, st⟩
    rw [loc1 (s := ⟨f, st⟩) (s2 := ⟨f, st⟩) hp (fun _ _ => rfl) (fun _ _ => rfl)]
    exact h
  | pre base =>
    show xopD P o (base + nm) (fun v U _ => xpre P base r K ⟨upd f d v, setAll st U⟩) ⟨f, st⟩
    cases o <;> first | exact h | simp [plainOp] at hp

theorem run_nil (h : K ⟨f, st⟩) : xrun P m [] K ⟨f, st⟩ := by cases m <;> exact h

/-! the store's shape: what was there, and what the function has made -/
theorem g_ext {l : List Content} {n : Nat} (hn : st.length = n) (i : Nat) : (st ++ l)[n + i]? = l[i]? := by subst hn; rw [List.getElem?_append_right (by omega)]; simp
theorem g_old {l : List Content} {x : Nat} {c : Content} (h : st[x]? = some c) : (st ++ l)[x]? = some c := by rw [List.getElem?_append_left (List.getElem?_eq_some_iff.1 h).1]; exact h
theorem s_ext {l : List Content} {n : Nat} (hn : st.length = n) (i : Nat) (c : Content) : (st ++ l).set (n + i) c = st ++ l.set i c := by subst hn; rw [List.set_append_right _ _ (by omega)]; simp
theorem s_old {l : List Content} {x : Nat} {c0 c : Content} (h : st[x]? = some c0) : (st ++ l).set x c = st.set x c ++ l := by rw [List.set_append_left _ _ (List.getElem?_eq_some_iff.1 h).1]
theorem len_set {x n : Nat} {c : Content} (h : st.length = n) : (st.set x c).length = n := by simp [h]
theorem entry_nil {P : Program} {n : Nat} {c : XC} {Q : XE → XS → Prop} (h : xexec P n c Q ⟨f, st ++ []⟩) : xexec P n c Q ⟨f, st⟩ := by simpa using h

/-! an operation that is carried out -/
theorem o_move {x : XA} {v : PV} (hx : ev ⟨f, st⟩ x = v) (h : xrun P m r K ⟨upd f d v, st⟩) : xrun P m (⟨some d, .move x, none, nm⟩ :: r) K ⟨f, st⟩ := by
  subst hx; exact run_plain rfl h
theorem o_pick {c x y : XA} {t : Bool} {p q : PV} (hc : ev ⟨f, st⟩ c = .d (.bool t)) (hx : ev ⟨f, st⟩ x = p) (hy : ev ⟨f, st⟩ y = q) (h1 : t = true → xrun P m r K ⟨upd f d p, st⟩) (h2 : t = false → xrun P m r K ⟨upd f d q, st⟩) :
    xrun P m (⟨some d, .pick c x y, none, nm⟩ :: r) K ⟨f, st⟩ := by
  refine run_plain rfl ?_
  simp only [xop, hc, hx, hy]
  cases p <;> first | (exact ⟨h1, h2⟩) | skip
  rename_i a
  cases a <;> first | (exact ⟨h1, h2⟩) | skip
  rename_i a
  cases q <;> first | (exact ⟨h1, h2⟩) | skip
  rename_i b
  cases b <;> first | (exact ⟨h1, h2⟩) | skip
  cases t
  · exact h2 rfl
  · exact h1 rfl
theorem o_pick_t {c x y : XA} {p : PV} (hc : ev ⟨f, st⟩ c = .d (.bool true)) (hx : ev ⟨f, st⟩ x = p) (h1 : xrun P m r K ⟨upd f d p, st⟩) :
    xrun P m (⟨some d, .pick c x y, none, nm⟩ :: r) K ⟨f, st⟩ := o_pick hc hx rfl (fun _ => h1) (fun e => (by cases e))
theorem o_pick_f {c x y : XA} {q : PV} (hc : ev ⟨f, st⟩ c = .d (.bool false)) (hx : ev ⟨f, st⟩ y = q) (h1 : xrun P m r K ⟨upd f d q, st⟩) :
    xrun P m (⟨some d, .pick c x y, none, nm⟩ :: r) K ⟨f, st⟩ := o_pick hc rfl hx (fun e => (by cases e)) (fun _ => h1)
theorem o_build {zero : List PV} {parts : List (Nat × Nat × XA)} {cs : List PV} (h1 : fillOk ⟨f, st⟩ zero.length parts) (h2 : fillP ⟨f, st⟩ zero parts = cs) (h : xrun P m r K ⟨upd f d (.agg cs), st⟩) : xrun P m (⟨some d, .build zero parts, none, nm⟩ :: r) K ⟨f, st⟩ := by
  subst h2; exact run_plain rfl ⟨h1, h⟩
theorem o_slice {size : Nat} {parts : List XA} {rows : List (List D)} (h1 : rowsOf ⟨f, st⟩ size parts = some rows) (h : xrun P m r K ⟨upd f d (.ex rows), st⟩) : xrun P m (⟨some d, .buildSlice size parts, none, nm⟩ :: r) K ⟨f, st⟩ := by
  refine run_plain rfl ?_; simp only [xop, h1]; exact h
theorem o_load {size : Nat} {x : XA} {b off : Nat} {cells : List PV} {p : PV} (hx : ev ⟨f, st⟩ x = .ptr b off) (hb : st[b]? = some (.box cells)) (hc : cells[off]? = some p) (h : xrun P m r K ⟨upd f d p, st⟩) :
    xrun P m (⟨some d, .load false size x, none, nm⟩ :: r) K ⟨f, st⟩ := by
  refine run_plain rfl ?_; simp only [xop, hx, hb, Bool.false_eq_true, if_false, hc]; exact h
theorem o_loadA {size : Nat} {x : XA} {b off : Nat} {cells cs : List PV} (hx : ev ⟨f, st⟩ x = .ptr b off) (hb : st[b]? = some (.box cells)) (hl : off + size ≤ cells.length) (hc : (cells.drop off).take size = cs) (h : xrun P m r K ⟨upd f d (.agg cs), st⟩) :
    xrun P m (⟨some d, .load true size x, none, nm⟩ :: r) K ⟨f, st⟩ := by
  subst hc; refine run_plain rfl ?_; simp only [xop, hx, hb, if_true]; exact ⟨hl, h⟩
theorem o_loadD {size : Nat} {x : XA} {cells : List D} {v : D} (hx : ev ⟨f, st⟩ x = .dp cells) (hc : cells[0]? = some v) (h : xrun P m r K ⟨upd f d (.d v), st⟩) :
    xrun P m (⟨some d, .load false size x, none, nm⟩ :: r) K ⟨f, st⟩ := by
  refine run_plain rfl ?_; simp only [xop, hx, Bool.false_eq_true, if_false, hc]; exact h
theorem o_loadDA {size : Nat} {x : XA} {cells : List D} {cs : List PV} (hx : ev ⟨f, st⟩ x = .dp cells) (hl : size ≤ cells.length) (hc : (cells.take size).map .d = cs) (h : xrun P m r K ⟨upd f d (.agg cs), st⟩) :
    xrun P m (⟨some d, .load true size x, none, nm⟩ :: r) K ⟨f, st⟩ := by
  subst hc; refine run_plain rfl ?_; simp only [xop, hx, if_true]; exact ⟨hl, h⟩
theorem o_nilc {x : XA} {b off : Nat} (hx : ev ⟨f, st⟩ x = .ptr b off) (h : xrun P m r K ⟨upd f d (.ptr b off), st⟩) : xrun P m (⟨some d, .nilCheck x, none, nm⟩ :: r) K ⟨f, st⟩ := by
  refine run_plain rfl ?_; simp only [xop, hx]; exact h
theorem o_nilcD {x : XA} {cells : List D} (hx : ev ⟨f, st⟩ x = .dp cells) (h : xrun P m r K ⟨upd f d (.dp cells), st⟩) : xrun P m (⟨some d, .nilCheck x, none, nm⟩ :: r) K ⟨f, st⟩ := by
  refine run_plain rfl ?_; simp only [xop, hx]; exact h
theorem o_bin {op : BinOp} {x y : XA} {a b : D} (hx : ev ⟨f, st⟩ x = .d a) (hy : ev ⟨f, st⟩ y = .d b) (h : binK op (fun v => xrun P m r K ⟨upd f d (.d v), st⟩) a b) : xrun P m (⟨some d, .bin op x y, none, nm⟩ :: r) K ⟨f, st⟩ := by
  refine run_plain rfl ?_; simp only [xop, hx, hy]; exact h
theorem o_eqB {neg : Bool} {x y : XA} {a b : Bool} (hx : ev ⟨f, st⟩ x = .d (.bool a)) (hy : ev ⟨f, st⟩ y = .d (.bool b)) (h : xrun P m r K ⟨upd f d (.d (.bool (if neg then !(a == b) else a == b))), st⟩) : xrun P m (⟨some d, .eqBool neg x y, none, nm⟩ :: r) K ⟨f, st⟩ := by
  refine run_plain rfl ?_; simp only [xop, hx, hy]; exact h
theorem o_not {x : XA} {b : Bool} (hx : ev ⟨f, st⟩ x = .d (.bool b)) (h : xrun P m r K ⟨upd f d (.d (.bool (!b))), st⟩) : xrun P m (⟨some d, .not x, none, nm⟩ :: r) K ⟨f, st⟩ := by
  refine run_plain rfl ?_; simp only [xop, hx]; exact h
theorem o_neg {x : XA} {k : IntKind} {n : Int} (hx : ev ⟨f, st⟩ x = .d (.int k n)) (h : xrun P m r K ⟨upd f d (.d (.int k (k.wrap (0 - n)))), st⟩) : xrun P m (⟨some d, .neg x, none, nm⟩ :: r) K ⟨f, st⟩ := by
  refine run_plain rfl ?_; simp only [xop, hx]; exact h
theorem o_toInt {x : XA} {k k' : IntKind} {n : Int} (hx : ev ⟨f, st⟩ x = .d (.int k' n)) (h : xrun P m r K ⟨upd f d (.d (.int k (k.wrap n))), st⟩) : xrun P m (⟨some d, .toInt k x, none, nm⟩ :: r) K ⟨f, st⟩ := by
  refine run_plain rfl ?_; simp only [xop, hx]; exact h
theorem o_toStr {x : XA} {b : ByteArray} (hx : ev ⟨f, st⟩ x = .d (.str b)) (h : xrun P m r K ⟨upd f d (.d (.str b)), st⟩) : xrun P m (⟨some d, .toStr x, none, nm⟩ :: r) K ⟨f, st⟩ := by
  refine run_plain rfl ?_; simp only [xop, hx]; exact h
theorem o_toBytes {x : XA} {b : ByteArray} (hx : ev ⟨f, st⟩ x = .d (.str b)) (h : xrun P m r K ⟨upd f d (.d (.sl (bytesRows b))), st⟩) : xrun P m (⟨some d, .toBytes x, none, nm⟩ :: r) K ⟨f, st⟩ := by
  refine run_plain rfl ?_; simp only [xop, hx]; exact h
theorem o_fa {off o : Nat} {x : XA} {b : Nat} (hx : ev ⟨f, st⟩ x = .ptr b o) {o' : Nat} (ho : o + off = o') (h : xrun P m r K ⟨upd f d (.ptr b o'), st⟩) : xrun P m (⟨some d, .fieldAddr off x, none, nm⟩ :: r) K ⟨f, st⟩ := by
  subst ho; refine run_plain rfl ?_; simp only [xop, hx]; exact h
theorem o_faD {off : Nat} {x : XA} {cells cells' : List D} (hx : ev ⟨f, st⟩ x = .dp cells) (ho : cells.drop off = cells') (h : xrun P m r K ⟨upd f d (.dp cells'), st⟩) : xrun P m (⟨some d, .fieldAddr off x, none, nm⟩ :: r) K ⟨f, st⟩ := by
  subst ho; refine run_plain rfl ?_; simp only [xop, hx]; exact h
theorem o_field {off size : Nat} {x : XA} {cells : List PV} {p : PV} (hx : ev ⟨f, st⟩ x = .agg cells) (hc : cells[off]? = some p) (h : xrun P m r K ⟨upd f d p, st⟩) : xrun P m (⟨some d, .field false off size x, none, nm⟩ :: r) K ⟨f, st⟩ := by
  refine run_plain rfl ?_; simp only [xop, hx, Bool.false_eq_true, if_false, hc]; exact h
theorem o_fieldA {off size : Nat} {x : XA} {cells cs : List PV} (hx : ev ⟨f, st⟩ x = .agg cells) (hl : off + size ≤ cells.length) (hc : (cells.drop off).take size = cs) (h : xrun P m r K ⟨upd f d (.agg cs), st⟩) : xrun P m (⟨some d, .field true off size x, none, nm⟩ :: r) K ⟨f, st⟩ := by
  subst hc; refine run_plain rfl ?_; simp only [xop, hx, if_true]; exact ⟨hl, h⟩
theorem o_idx {size : Nat} {x i : XA} {rows : List (List D)} {k : IntKind} {n : Int} (hx : asRows st (ev ⟨f, st⟩ x) = some rows) (hi : ev ⟨f, st⟩ i = .d (.int k n)) (h0 : 0 ≤ n) (h1 : n < rows.length) {row : List D} (hr : rows[n.toNat]? = some row) (hl : row.length = size)
    (h : xrun P m r K ⟨upd f d (.dp row), st⟩) : xrun P m (⟨some d, .indexAddr size x i, none, nm⟩ :: r) K ⟨f, st⟩ := by
  refine run_plain rfl ?_; simp only [xop, hx, hi]; exact ⟨h0, h1, fun row' hr' => by rw [hr] at hr'; cases hr'; exact ⟨hl, h⟩⟩
theorem o_idxS {x i : XA} {b : ByteArray} {k : IntKind} {n : Int} (hx : ev ⟨f, st⟩ x = .d (.str b)) (hi : ev ⟨f, st⟩ i = .d (.int k n)) (h0 : 0 ≤ n) (h1 : n < b.size) (h : xrun P m r K ⟨upd f d (.d (.int .u8 (byteAt b n.toNat))), st⟩) : xrun P m (⟨some d, .indexStr x i, none, nm⟩ :: r) K ⟨f, st⟩ := by
  refine run_plain rfl ?_; simp only [xop, hx, hi]; exact ⟨h0, h1, h⟩
theorem o_lenS {x : XA} {b : ByteArray} (hx : ev ⟨f, st⟩ x = .d (.str b)) (h : xrun P m r K ⟨upd f d (.d (.int .i64 b.size)), st⟩) : xrun P m (⟨some d, .lenS x, none, nm⟩ :: r) K ⟨f, st⟩ := by
  refine run_plain rfl ?_; simp only [xop, hx]; exact h
theorem o_lenR {x : XA} {rows : List (List D)} (hx : asRows st (ev ⟨f, st⟩ x) = some rows) (h : xrun P m r K ⟨upd f d (.d (.int .i64 rows.length)), st⟩) : xrun P m (⟨some d, .lenR x, none, nm⟩ :: r) K ⟨f, st⟩ := by
  refine run_plain rfl ?_; simp only [xop, hx]; exact h
theorem o_mm {mx : Bool} {x : XA} {xs : List XA} {k : IntKind} {n : Int} (hx : ev ⟨f, st⟩ x = .d (.int k n)) (h : mmD mx ⟨f, st⟩ n xs (fun v => xrun P m r K ⟨upd f d (.d (.int k v)), st⟩) k) : xrun P m (⟨some d, .minmax mx x xs, none, nm⟩ :: r) K ⟨f, st⟩ := by
  refine run_plain rfl ?_; simp only [xop, hx]; exact h
theorem o_sliceS {x : XA} {lo hi : Option XA} {b : ByteArray} (hx : ev ⟨f, st⟩ x = .d (.str b)) (h : bnd ⟨f, st⟩ 0 (fun l => bnd ⟨f, st⟩ b.size (fun h => 0 ≤ l ∧ l ≤ h ∧ h ≤ b.size ∧ xrun P m r K ⟨upd f d (.d (.str (b.extract l.toNat h.toNat))), st⟩) hi) lo) : xrun P m (⟨some d, .sliceS x lo hi, none, nm⟩ :: r) K ⟨f, st⟩ := by
  refine run_plain rfl ?_; simp only [xop, hx]; exact h
theorem o_sliceR {size : Nat} {x : XA} {lo hi : Option XA} {rows : List (List D)} (hx : asRows st (ev ⟨f, st⟩ x) = some rows) (hz : ∀ row, row ∈ rows → row.length = size) (h : bnd ⟨f, st⟩ 0 (fun l => bnd ⟨f, st⟩ rows.length (fun h => 0 ≤ l ∧ l ≤ h ∧ h ≤ rows.length ∧ xrun P m r K ⟨upd f d (.d (.sl ((rows.take h.toNat).drop l.toNat))), st⟩) hi) lo) : xrun P m (⟨some d, .sliceR size x lo hi none, none, nm⟩ :: r) K ⟨f, st⟩ := by
  refine run_plain rfl ?_; simp only [xop, hx]; exact ⟨hz, h⟩
theorem o_sliceX {size : Nat} {x mx : XA} {lo hi : Option XA} {rows : List (List D)} (hx : asRows st (ev ⟨f, st⟩ x) = some rows) (hz : ∀ row, row ∈ rows → row.length = size) (h : bnd ⟨f, st⟩ 0 (fun l => bnd ⟨f, st⟩ (-1) (fun h => bnd ⟨f, st⟩ 0 (fun m1 => 0 ≤ l ∧ l ≤ h ∧ m1 = h ∧ h ≤ rows.length ∧ xrun P m r K ⟨upd f d (.ex ((rows.take h.toNat).drop l.toNat)), st⟩) (some mx)) hi) lo) : xrun P m (⟨some d, .sliceR size x lo hi (some mx), none, nm⟩ :: r) K ⟨f, st⟩ := by
  refine run_plain rfl ?_; simp only [xop, hx]; exact ⟨hz, h⟩
theorem o_ext {x : XA} {i : Nat} {vs : List PV} {p : PV} (hx : ev ⟨f, st⟩ x = .tup vs) (hp : vs[i]? = some p) (h : xrun P m r K ⟨upd f d p, st⟩) : xrun P m (⟨some d, .extract x i, none, nm⟩ :: r) K ⟨f, st⟩ := by
  refine run_plain rfl ?_; simp only [xop, hx, hp]; exact h
/-! guards -/
theorem g_run {o : XOp} {ds : Option Nat} {t : Nat} {want : Bool} (ht : f t = .d (.bool want)) (h : xrun P m (⟨ds, o, none, nm⟩ :: r) K ⟨f, st⟩) : xrun P m (⟨ds, o, some (t, want), nm⟩ :: r) K ⟨f, st⟩ := by
  cases m with
  | seq => simp only [xrun, xops, ht]; exact ⟨fun _ => h, fun e => (by cases want <;> cases e)⟩
  | pre base => simp only [xrun, xpre, ht]; exact ⟨fun _ => h, fun e => (by cases want <;> cases e)⟩
theorem g_skip {o : XOp} {t : Nat} {want : Bool} (ht : f t = .d (.bool (!want))) (h : xrun P m r K ⟨upd f d (.tup []), st⟩) : xrun P m (⟨some d, o, some (t, want), nm⟩ :: r) K ⟨f, st⟩ := by
  cases m with
  | seq => simp only [xrun, xops, ht]; exact ⟨fun e => (by cases want <;> cases e), fun _ => h⟩
  | pre base => simp only [xrun, xpre, ht]; exact ⟨fun e => (by cases want <;> cases e), fun _ => h⟩
theorem g_skip0 {o : XOp} {t : Nat} {want : Bool} (ht : f t = .d (.bool (!want))) (h : xrun P m r K ⟨f, st⟩) : xrun P m (⟨none, o, some (t, want), nm⟩ :: r) K ⟨f, st⟩ := by
  cases m with
  | seq => simp only [xrun, xops, ht]; exact ⟨fun e => (by cases want <;> cases e), fun _ => h⟩
  | pre base => simp only [xrun, xpre, ht]; exact ⟨fun e => (by cases want <;> cases e), fun _ => h⟩
theorem g_none {o : XOp} {t : Nat} {want : Bool} (ht : f t = .tup []) (h : xrun P m r K ⟨upd f d (.tup []), st⟩) : xrun P m (⟨some d, o, some (t, want), nm⟩ :: r) K ⟨f, st⟩ := by
  cases m with
  | seq => simp only [xrun, xops, ht]; exact h
  | pre base => simp only [xrun, xpre, ht]; exact h
theorem upd_self {t : Nat} {p : PV} (h : f t = p) : upd f t p = f := by funext i; simp only [upd]; split <;> simp_all
theorem g_split {o : XOp} {ds : Option Nat} {t : Nat} {want b : Bool} (ht : f t = .d (.bool b)) (h1 : b = true → xrun P m (⟨ds, o, some (t, want), nm⟩ :: r) K ⟨upd f t (.d (.bool true)), st⟩) (h2 : b = false → xrun P m (⟨ds, o, some (t, want), nm⟩ :: r) K ⟨upd f t (.d (.bool false)), st⟩) :
    xrun P m (⟨ds, o, some (t, want), nm⟩ :: r) K ⟨f, st⟩ := by
  cases b
  · rw [← upd_self ht]; exact h2 rfl
  · rw [← upd_self ht]; exact h1 rfl


/-! operations that write, or make names -/
variable {l : List Content} {n0 k : Nat}
theorem o_box {x : XA} {cs : List PV} (hn : st.length = n0) (hk : l.length = k) {px : PV} (hx : ev ⟨f, st ++ l⟩ x = px) (hc : px.cells = cs) (h1 : cs.all PV.one = true) (h : xrun P .seq r K ⟨upd f d (.ptr (n0 + k) 0), st ++ (l ++ [.box cs])⟩) : xrun P .seq (⟨some d, .box x, none, nm⟩ :: r) K ⟨f, st ++ l⟩ := by
  subst hx; subst hc; subst hn; subst hk
  rw [← List.append_assoc, ← List.length_append] at h
  exact ⟨h1, h⟩
theorem o_boxP {x : XA} {cs : List PV} (hn : st.length = n0) (hk : l[k + nm]? = some .fresh) {px : PV} (hx : ev ⟨f, st ++ l⟩ x = px) (hc : px.cells = cs) (h1 : cs.all PV.one = true) (h : xrun P (.pre (n0 + k)) r K ⟨upd f d (.ptr (n0 + (k + nm)) 0), st ++ l.set (k + nm) (.box cs)⟩) : xrun P (.pre (n0 + k)) (⟨some d, .box x, none, nm⟩ :: r) K ⟨f, st ++ l⟩ := by
  subst hx; subst hc; subst hn
  show xopD P (.box x) (st.length + k + nm) (fun v U _ => xpre P (st.length + k) r K ⟨upd f d v, setAll (st ++ l) U⟩) ⟨f, st ++ l⟩
  rw [Nat.add_assoc]
  refine ⟨(g_ext rfl _).trans hk, h1, ?_⟩
  simp only [setAll, s_ext rfl]
  exact h
theorem o_alloc {zero : List PV} (hn : st.length = n0) (hk : l.length = k) (h : xrun P .seq r K ⟨upd f d (.ptr (n0 + k) 0), st ++ (l ++ [.box zero])⟩) : xrun P .seq (⟨some d, .alloc zero, none, nm⟩ :: r) K ⟨f, st ++ l⟩ := by
  subst hn; subst hk
  rw [← List.append_assoc, ← List.length_append] at h
  exact h
theorem o_allocP {zero : List PV} (hn : st.length = n0) (hk : l[k + nm]? = some .fresh) (h : xrun P (.pre (n0 + k)) r K ⟨upd f d (.ptr (n0 + (k + nm)) 0), st ++ l.set (k + nm) (.box zero)⟩) : xrun P (.pre (n0 + k)) (⟨some d, .alloc zero, none, nm⟩ :: r) K ⟨f, st ++ l⟩ := by
  subst hn
  show xopD P (.alloc zero) (st.length + k + nm) (fun v U _ => xpre P (st.length + k) r K ⟨upd f d v, setAll (st ++ l) U⟩) ⟨f, st ++ l⟩
  rw [Nat.add_assoc]
  refine ⟨(g_ext rfl _).trans hk, ?_⟩
  simp only [setAll, s_ext rfl]
  exact h
theorem o_store {size : Nat} {x y : XA} {b off : Nat} {cells cs : List PV} (hx : ev ⟨f, st⟩ x = .ptr b off) (hb : st[b]? = some (.box cells)) {py : PV} (hy : ev ⟨f, st⟩ y = py) (hc : py.cells = cs) (hl : cs.length = size) (hl2 : off + size ≤ cells.length) (h1 : cs.all PV.one = true)
    {cells' : List PV} (hs : splice cells off cs = cells') {st' : List Content} (hst : st.set b (.box cells') = st') (h : xrun P m r K ⟨f, st'⟩) : xrun P m (⟨none, .store size x y, none, nm⟩ :: r) K ⟨f, st⟩ := by
  subst hy; subst hc; subst hs; subst hst
  cases m with
  | seq => simp only [xrun, xops, xop, hx, hb]; exact ⟨hl, hl2, h1, h⟩
  | pre base => simp only [xrun, xpre, xopD, hx, hb]; exact ⟨hl, hl2, h1, h⟩
theorem o_eqNil {neg : Bool} {x : XA} {rows : List (List D)} (hx : asRows st (ev ⟨f, st⟩ x) = some rows) (h1 : rows = [] → xrun P .seq r K ⟨upd f d (.d (.bool (!neg))), st⟩) (h2 : xrun P .seq r K ⟨upd f d (.d (.bool neg)), st⟩) : xrun P .seq (⟨some d, .eqNil neg x, none, nm⟩ :: r) K ⟨f, st⟩ := by
  simp only [xrun, xops, xop, hx]; exact ⟨h1, h2⟩
theorem o_mkMap {kt e : TypeId} (hn : st.length = n0) (hk : l.length = k) (h : xrun P .seq r K ⟨upd f d (.map (n0 + k)), st ++ (l ++ [.map kt e []])⟩) : xrun P .seq (⟨some d, .mkMap kt e, none, nm⟩ :: r) K ⟨f, st ++ l⟩ := by
  subst hn; subst hk
  rw [← List.append_assoc, ← List.length_append] at h
  exact h
theorem o_mapSet {kt e : TypeId} {mm x y : XA} {t : Nat} {b : ByteArray} {v : Bool} {ks : List ByteArray} (hm : ev ⟨f, st⟩ mm = .map t) (hx : ev ⟨f, st⟩ x = .d (.str b)) (hy : ev ⟨f, st⟩ y = .d (.bool v)) (ht : st[t]? = some (.map kt e ks))
    (hb : b.size ≤ 9223372036854775807) (hn : ks.length < 9223372036854775807) {st' : List Content} (hst : st.set t (.map kt e (ks ++ [b])) = st') (h : xrun P m r K ⟨f, st'⟩) : xrun P m (⟨none, .mapSet kt e mm x y, none, nm⟩ :: r) K ⟨f, st⟩ := by
  subst hst
  cases m with
  | seq => simp only [xrun, xops, xop, hm, hx, hy, ht]; exact ⟨trivial, trivial, hb, hn, h⟩
  | pre base => simp only [xrun, xpre, xopD, hm, hx, hy, ht]; exact ⟨trivial, trivial, hb, hn, h⟩
theorem o_appX {e size bytes : Nat} {x y : XA} {rows ys : List (List D)} (hn : st.length = n0) (hk : l.length = k) (hy : asRows (st ++ l) (ev ⟨f, st ++ l⟩ y) = some ys) (hz : ∀ row, row ∈ ys → row.length = size) (hx : ev ⟨f, st ++ l⟩ x = .ex rows) (hzx : ∀ row, row ∈ rows → row.length = size) (hb : (rows.length + ys.length) * bytes ≤ 140737488355328)
    (h : xrun P .seq r K ⟨upd f d (.own (n0 + k) 1), st ++ (l ++ [.row e 1 (rows ++ ys)])⟩) : xrun P .seq (⟨some d, .append e size bytes x y, none, nm⟩ :: r) K ⟨f, st ++ l⟩ := by
  subst hn; subst hk
  rw [← List.append_assoc, ← List.length_append] at h
  simp only [xrun, xops, xop, hx, hy]; exact ⟨hz, hzx, hb, h⟩
theorem o_appXP {e size bytes : Nat} {x y : XA} {rows ys : List (List D)} (hn : st.length = n0) (hk : l[k + nm]? = some .fresh) (hy : asRows (st ++ l) (ev ⟨f, st ++ l⟩ y) = some ys) (hz : ∀ row, row ∈ ys → row.length = size) (hx : ev ⟨f, st ++ l⟩ x = .ex rows) (hzx : ∀ row, row ∈ rows → row.length = size) (hb : (rows.length + ys.length) * bytes ≤ 140737488355328)
    (h : xrun P (.pre (n0 + k)) r K ⟨upd f d (.own (n0 + (k + nm)) 1), st ++ l.set (k + nm) (.row e 1 (rows ++ ys))⟩) : xrun P (.pre (n0 + k)) (⟨some d, .append e size bytes x y, none, nm⟩ :: r) K ⟨f, st ++ l⟩ := by
  subst hn
  show xopD P (.append e size bytes x y) (st.length + k + nm) (fun v U _ => xpre P (st.length + k) r K ⟨upd f d v, setAll (st ++ l) U⟩) ⟨f, st ++ l⟩
  rw [Nat.add_assoc]
  simp only [xopD, hx, hy]
  refine ⟨hz, (g_ext rfl _).trans hk, hzx, hb, ?_⟩
  simp only [setAll, s_ext rfl]
  exact h
theorem o_appO {e size bytes : Nat} {x y : XA} {t ver : Nat} {rows ys : List (List D)} (hy : asRows st (ev ⟨f, st⟩ y) = some ys) (hz : ∀ row, row ∈ ys → row.length = size) (hx : ev ⟨f, st⟩ x = .own t ver) (ht : st[t]? = some (.row e ver rows)) (hb : (rows.length + ys.length) * bytes ≤ 140737488355328)
    {st' : List Content} (hst : st.set t (.row e (ver + 1) (rows ++ ys)) = st') (h : xrun P m r K ⟨upd f d (.own t (ver + 1)), st'⟩) : xrun P m (⟨some d, .append e size bytes x y, none, nm⟩ :: r) K ⟨f, st⟩ := by
  subst hst
  cases m with
  | seq => simp only [xrun, xops, xop, hx, hy, ht]; exact ⟨hz, trivial, trivial, hb, h⟩
  | pre base => simp only [xrun, xpre, xopD, hx, hy, ht]; exact ⟨hz, trivial, trivial, hb, h⟩
theorem o_mkfn {g : FuncId} {a b : List XA} {ps qs : List PV} (ha : a.map (ev ⟨f, st⟩) = ps) (hb : b.map (ev ⟨f, st⟩) = qs) (h : xrun P m r K ⟨upd f d (.fn g ps qs), st⟩) : xrun P m (⟨some d, .mkfn g a b, none, nm⟩ :: r) K ⟨f, st⟩ := by
  subst ha; subst hb; exact run_plain rfl h
theorem o_call {g : FuncId} {args : List XA} {vs : List PV} (ha : args.map (fun a => frzA st (ev ⟨f, st⟩ a)) = vs) (h : ACalls P g vs st (fun v st' => xrun P .seq r K ⟨upd f d v, st'⟩)) : xrun P .seq (⟨some d, .call g args, none, nm⟩ :: r) K ⟨f, st⟩ := by
  subst ha; exact h
theorem o_callP {base : Nat} {g : FuncId} {args : List XA} {vs : List PV} {v : PV} (ha : args.map (fun a => frzA st (ev ⟨f, st⟩ a)) = vs) (h : ∀ st2, ACalls P g vs st2 (fun p st' => p = v ∧ st' = st2)) (hk : xrun P (.pre base) r K ⟨upd f d v, st⟩) : xrun P (.pre base) (⟨some d, .call g args, none, nm⟩ :: r) K ⟨f, st⟩ := by
  subst ha
  exact ⟨v, [], [], fun st2 _ _ => (h st2).mono fun p st' hp => .inl hp, hk⟩
theorem o_dyn {x : XA} {args : List XA} {g : FuncId} {ps qs ws vs : List PV} (hx : ev ⟨f, st⟩ x = .fn g ps qs) (ha : args.map (fun a => frzA st (ev ⟨f, st⟩ a)) = ws) (hw : ps ++ ws ++ qs = vs) (h : ACalls P g vs st (fun v st' => xrun P .seq r K ⟨upd f d v, st'⟩)) : xrun P .seq (⟨some d, .dyn x args, none, nm⟩ :: r) K ⟨f, st⟩ := by
  subst hw; subst ha; simp only [xrun, xops, xop, hx]; exact h
theorem dy_nil {ws : List PV} : [] ++ ws ++ [] = ws := by simp
theorem dy_11 {p q : PV} : [] ++ [p] ++ [q] = [p, q] := rfl
theorem dy_12 {p q q' : PV} : [] ++ [p] ++ [q, q'] = [p, q, q'] := rfl
theorem dy_21 {p p' q : PV} : [] ++ [p, p'] ++ [q] = [p, p', q] := rfl
/-! looking up -/
theorem e_c {s : XS} {p : PV} : ev s (.c p) = p := rfl
theorem e_t {i : Nat} {v : PV} (h : f i = v) : ev ⟨f, st⟩ (.t i) = v := h
theorem e_hit {v : PV} : upd f d v d = v := by simp [upd]
theorem e_miss {i : Nat} {v p : PV} (hne : (i == d) = false) (h : f i = v) : upd f d p i = v := by
  simp only [upd, if_neg (show ¬ i = d by simpa using hne)]; exact h

/-! code -/
variable {n : Nat} {Q : XE → XS → Prop} {s : XS}
theorem x_skip (h : Q .normal s) : xexec P n .skip Q s := h
theorem x_region {l : List XI} (h : xrun P .seq l (Q .normal) s) : xexec P n (.region l) Q s := h
theorem x_regionS {is : List XI} {nf n0 k : Nat} {l : List Content} (hn : st.length = n0) (hk : l.length = k) (h : xrun P (.pre (n0 + k)) is (Q .normal) ⟨f, st ++ (l ++ List.replicate nf .fresh)⟩) : xexec P n (.regionS is nf) Q ⟨f, st ++ l⟩ := by
  subst hn; subst hk
  simp only [xexec, List.append_assoc, List.length_append]
  exact h
theorem x_seq {a b : XC} (h : xexec P n a (thenX (xexec P n b Q) Q) s) : xexec P n (.seq a b) Q s := h
theorem x_cond_t {c : XA} {a b : XC} (hc : ev s c = .d (.bool true)) (h : xexec P n a Q s) : xexec P n (.cond c a b) Q s := by
  simp only [xexec, hc]; exact ⟨fun _ => h, fun e => by cases e⟩
theorem x_cond_f {c : XA} {a b : XC} (hc : ev s c = .d (.bool false)) (h : xexec P n b Q s) : xexec P n (.cond c a b) Q s := by
  simp only [xexec, hc]; exact ⟨fun e => (by cases e), fun _ => h⟩
theorem x_cond {c : XA} {a b : XC} {t : Bool} (hc : ev s c = .d (.bool t)) (h1 : t = true → xexec P n a Q s) (h2 : t = false → xexec P n b Q s) : xexec P n (.cond c a b) Q s := by
  simp only [xexec, hc]; exact ⟨h1, h2⟩
theorem x_block {id : Nat} {b : XC} (h : xexec P n b (inBlockX id Q) s) : xexec P n (.block id b) Q s := h
theorem x_exit {id : Nat} (h : Q (.exit id) s) : xexec P n (.exit id) Q s := h
theorem x_ret (h : Q .ret s) : xexec P n .ret Q s := h
theorem x_loop {b : XC} (h : XLoop P n (fun K s => xexec P n b (thenX K Q) s) s) : xexec P n (.loop b) Q s := h
theorem k_then {K' : XS → Prop} (h : K' s) : thenX K' Q .normal s := h
theorem k_thenE {K' : XS → Prop} {id : Nat} (h : Q (.exit id) s) : thenX K' Q (.exit id) s := h
theorem k_thenR {K' : XS → Prop} (h : Q .ret s) : thenX K' Q .ret s := h
theorem k_inN {id : Nat} (h : Q .normal s) : inBlockX id Q .normal s := h
theorem k_inR {id : Nat} (h : Q .ret s) : inBlockX id Q .ret s := h
theorem k_inE {id : Nat} (h : Q .normal s) : inBlockX id Q (.exit id) s := by simp only [inBlockX, if_true]; exact h
theorem k_inO {id id' : Nat} (hne : (id' == id) = false) (h : Q (.exit id') s) : inBlockX id Q (.exit id') s := by
  simp only [inBlockX, if_neg (show ¬ id' = id by simpa using hne)]; exact h
end

/-- The end of a function. -/
theorem retK {P : Program} {n : Nat} {res : List XRes} {R : PV → List Content → Prop} {s : XS} {ps : List PV} {v : PV} {st' : List Content} (h1 : resAll s res = some ps) (h2 : cutV n (frzA s.st (pack ps)) = v) (h3 : cutS n s.st = st') (h : R v st') : RetK P n res R .ret s := by
  subst h2; subst h3; exact ⟨ps, h1, h⟩
theorem retK_n {P : Program} {n : Nat} {res : List XRes} {R : PV → List Content → Prop} {s : XS} {ps : List PV} {v : PV} {st' : List Content} (h1 : resAll s res = some ps) (h2 : cutV n (frzA s.st (pack ps)) = v) (h3 : cutS n s.st = st') (h : R v st') : RetK P n res R .normal s := by
  subst h2; subst h3; exact ⟨ps, h1, h⟩

/-! two-place operations -/
section
variable {K : D → Prop} {k : IntKind} {a b : Int}
theorem b_add (h : K (.int k (k.wrap (a + b)))) : binK .add K (.int k a) (.int k b) := ⟨rfl, h⟩
theorem b_sub (h : K (.int k (k.wrap (a - b)))) : binK .sub K (.int k a) (.int k b) := ⟨rfl, h⟩
theorem b_mul (h : K (.int k (k.wrap (a * b)))) : binK .mul K (.int k a) (.int k b) := ⟨rfl, h⟩
theorem b_quo (h0 : b ≠ 0) (h : K (.int k (k.wrap (a.tdiv b)))) : binK .quo K (.int k a) (.int k b) := ⟨rfl, h0, h⟩
theorem b_rem (h0 : b ≠ 0) (h : K (.int k (a.tmod b))) : binK .rem K (.int k a) (.int k b) := ⟨rfl, h0, h⟩
theorem b_shr {k' : IntKind} (h0 : 0 ≤ b) (h : K (.int k (a.fdiv (2 ^ (min b.toNat k.bits))))) : binK .shr K (.int k a) (.int k' b) := ⟨h0, h⟩
theorem b_eql (h : K (.bool (decide (a = b)))) : binK .eql K (.int k a) (.int k b) := by
  have e : (a == b) = decide (a = b) := by rw [Bool.eq_iff_iff]; simp
  exact ⟨rfl, by rw [e]; exact h⟩
theorem b_neq (h : K (.bool (decide (¬ a = b)))) : binK .neq K (.int k a) (.int k b) := by
  have e : (a != b) = decide (¬ a = b) := by rw [Bool.eq_iff_iff]; simp
  exact ⟨rfl, by rw [e]; exact h⟩
theorem b_lss (h : K (.bool (decide (a < b)))) : binK .lss K (.int k a) (.int k b) := ⟨rfl, h⟩
theorem b_leq (h : K (.bool (decide (a ≤ b)))) : binK .leq K (.int k a) (.int k b) := ⟨rfl, h⟩
theorem b_gtr (h : K (.bool (decide (a > b)))) : binK .gtr K (.int k a) (.int k b) := ⟨rfl, h⟩
theorem b_geq (h : K (.bool (decide (a ≥ b)))) : binK .geq K (.int k a) (.int k b) := ⟨rfl, h⟩
theorem toList_eq (x y : ByteArray) : (x.toList == y.toList) = decide (x = y) := by
  have h : ∀ x : ByteArray, x.toList = x.data.toList := fun x => ByteArray.toList_eq x
  rw [Bool.eq_iff_iff, beq_iff_eq, decide_eq_true_iff, h, h]
  constructor
  · intro e
    have : x.data = y.data := by apply Array.ext'; exact e
    cases x; cases y; simp_all
  · intro e; rw [e]
variable {x y : ByteArray}
theorem b_sadd (hs : ((x.size + y.size : Nat) : Int) ≤ 9223372036854775807) (h : K (.str (x ++ y))) : binK .add K (.str x) (.str y) := ⟨hs, h⟩
theorem b_seql (h : K (.bool (decide (x = y)))) : binK .eql K (.str x) (.str y) := by
  show K (.bool (x.toList == y.toList)); rw [toList_eq]; exact h
theorem b_sneq (h : K (.bool (decide (¬ x = y)))) : binK .neq K (.str x) (.str y) := by
  show K (.bool (!(x.toList == y.toList)))
  rw [toList_eq]
  have e : (!decide (x = y)) = decide (¬ x = y) := by simp
  rw [e]; exact h
end
section
variable {s : XS} {K : Int → Prop} {k : IntKind} {n i : Int} {a : XA} {r : List XA}
theorem m_nil {mx : Bool} (h : K n) : mmD mx s n [] K k := h
theorem m_max {y : Int} (ha : ev s a = .d (.int k y)) (h : mmD true s (max n y) r K k) : mmD true s n (a :: r) K k := by
  simp only [mmD, ha, if_true]; exact ⟨trivial, h⟩
theorem m_min {y : Int} (ha : ev s a = .d (.int k y)) (h : mmD false s (min n y) r K k) : mmD false s n (a :: r) K k := by
  simp only [mmD, ha, Bool.false_eq_true, if_false]; exact ⟨trivial, h⟩
theorem bd_none {dflt : Int} (h : K dflt) : bnd s dflt K none := h
theorem bd_some {dflt : Int} {k' : IntKind} (ha : ev s a = .d (.int k' i)) (h : K i) : bnd s dflt K (some a) := by
  simp only [bnd, ha]; exact h
end
section
variable {f : Nat → PV} {st : List Content} {t : Nat} {rs : List XRes} {ps : List PV}
theorem r_nil : resAll ⟨f, st⟩ [] = some [] := rfl
theorem r_tmp {v : PV} (h : f t = v) (hr : resAll ⟨f, st⟩ rs = some ps) : resAll ⟨f, st⟩ (.tmp t :: rs) = some (v :: ps) := by
  simp only [resAll, resOne, h, hr]
theorem r_cell {v : PV} {b off size : Nat} {cells : List PV} (h : f t = .ptr b off) (hb : st[b]? = some (.box cells)) (hc : cells[off]? = some v) (hr : resAll ⟨f, st⟩ rs = some ps) : resAll ⟨f, st⟩ (.cell t false size :: rs) = some (v :: ps) := by
  simp only [resAll, resOne, h, hb, hr, Bool.false_eq_true, if_false, hc]
theorem r_cellA {b off size : Nat} {cells cs : List PV} (h : f t = .ptr b off) (hb : st[b]? = some (.box cells)) (hl : off + size ≤ cells.length) (hc : (cells.drop off).take size = cs) (hr : resAll ⟨f, st⟩ rs = some ps) : resAll ⟨f, st⟩ (.cell t true size :: rs) = some (.agg cs :: ps) := by
  subst hc; simp only [resAll, resOne, h, hb, hr, if_true, hl]
end
theorem cutS_set {st l : List Content} {x : Nat} {cells : List PV} (h : WF st) (hc : belowB.belowL st.length cells = true) : cutS st.length (st.set x (.box cells) ++ l) = st.set x (.box cells) := by
  have hw : WF (st.set x (.box cells)) := fun cs hm => by
    rw [List.length_set]
    rcases List.mem_or_eq_of_mem_set hm with hm | hm
    · exact h cs hm
    · cases hm; exact hc
  have := cutS_wf (l := l) hw
  rwa [List.length_set] at this

section
variable {s : XS} {st : List Content} {a : XA} {p q : PV} {l : List XA} {ps vs qs : List PV}
theorem a_nil : [].map (fun a => frzA st (ev s a)) = [] := rfl
theorem a_cons (h : ev s a = p) (hq : frzA st p = q) (hr : l.map (fun a => frzA st (ev s a)) = ps) : (a :: l).map (fun a => frzA st (ev s a)) = q :: ps := by subst h; subst hq; subst hr; rfl
theorem l_nil : [].map (ev s) = [] := rfl
theorem l_cons (h : ev s a = p) (hr : l.map (ev s) = ps) : (a :: l).map (ev s) = p :: ps := by subst h; subst hr; rfl
theorem d_args (h : l.map (fun a => frzA st (ev s a)) = ps) : vs ++ l.map (fun a => frzA st (ev s a)) ++ qs = vs ++ ps ++ qs := by rw [h]
theorem ar_of {rows : List (List D)} (h : ev s a = p) (hr : asRows st p = some rows) : asRows st (ev s a) = some rows := by rw [h]; exact hr
theorem ar_own {t e ver : Nat} {rows : List (List D)} (h : st[t]? = some (.row e ver rows)) : asRows st (.own t ver) = some rows := by simp [asRows, h]
end

section
variable {st : List Content} {p q : PV} {ps qs : List PV} {x : D} {n off : Nat} {g : FuncId} {rows : List (List D)}
theorem fz_d : frzA st (.d x) = .d x := rfl
theorem fz_ptr : frzA st (.ptr n off) = .ptr n off := rfl
theorem fz_fn : frzA st (.fn g ps qs) = .fn g ps qs := rfl
theorem fz_map : frzA st (.map n) = .map n := rfl
theorem fz_ex : frzA st (.ex rows) = .d (.sl rows) := rfl
theorem fz_own {t e ver : Nat} (h : st[t]? = some (.row e ver rows)) : frzA st (.own t ver) = .d (.sl rows) := by simp [frzA, frz, h]
theorem fz_agg (h : ps.map (frz st) = qs) : frzA st (.agg ps) = .agg qs := by subst h; rfl
theorem f_nil : [].map (frz st) = [] := rfl
theorem f_cons (h : frz st p = q) (hr : ps.map (frz st) = qs) : (p :: ps).map (frz st) = q :: qs := by subst h; subst hr; rfl
theorem f_d : frz st (.d x) = .d x := rfl
theorem f_ex : frz st (.ex rows) = .d (.sl rows) := rfl
theorem f_ptr : frz st (.ptr n off) = .ptr n off := rfl
theorem f_map : frz st (.map n) = .map n := rfl
theorem f_own {t e ver : Nat} (h : st[t]? = some (.row e ver rows)) : frz st (.own t ver) = .d (.sl rows) := by simp [frz, h]
/-- what a function hands back -/
theorem v_d : cutV n (.d x) = .d x := rfl
theorem v_agg (h : belowB.belowL n ps = true) : cutV n (.agg ps) = .agg ps := by simp only [cutV, belowB, h, if_true]
theorem v_tup (h : belowB.belowL n ps = true) : cutV n (.tup ps) = .tup ps := by simp only [cutV, belowB, h, if_true]
theorem p_one (h : frzA st p = q) {v : PV} (hv : cutV n q = v) : cutV n (frzA st (pack [p])) = v := by subst h; exact hv
theorem p_two {p' q' : PV} (h : frz1 st p = q) (h' : frz1 st p' = q') (hb : belowB.belowL n [q, q'] = true) : cutV n (frzA st (pack [p, p'])) = .tup [q, q'] := by
  subst h; subst h'
  exact v_tup hb
theorem p_nil : cutV n (frzA st (pack [])) = .tup [] := rfl
end

section
variable {x : D} {ps : List PV} {n off : Nat}
theorem pc_d : (PV.d x).cells = [.d x] := rfl
theorem pc_agg : (PV.agg ps).cells = ps := rfl
theorem d_dyn {f : Nat → PV} {st : List Content} {args : List XA} {vs ps qs : List PV} (ha : args.map (fun a => frzA st (ev ⟨f, st⟩ a)) = vs) {ws : List PV} (hw : ps ++ vs ++ qs = ws) : ps ++ args.map (fun a => frzA st (ev ⟨f, st⟩ a)) ++ qs = ws := by subst ha; exact hw
theorem lo_here {st : List Content} {t e ver : Nat} {rows : List (List D)} (h : st[t]? = some (.row e ver rows)) : asRows st (.own t ver) = some rows := ar_own h
theorem ar_d {st : List Content} {rows : List (List D)} : asRows st (.d (.sl rows)) = some rows := rfl
theorem ar_ex {st : List Content} {rows : List (List D)} : asRows st (.ex rows) = some rows := rfl
end

theorem b_inc {K : D → Prop} {a b : Int} (h0 : -9223372036854775808 ≤ a + b) (h1 : a + b < 9223372036854775808) (h : K (.int .i64 (a + b))) : binK .add K (.int .i64 a) (.int .i64 b) := b_add (by rw [wrap_i64 h0 h1]; exact h)
theorem b_dec {K : D → Prop} {a b : Int} (h0 : -9223372036854775808 ≤ a - b) (h1 : a - b < 9223372036854775808) (h : K (.int .i64 (a - b))) : binK .sub K (.int .i64 a) (.int .i64 b) := b_sub (by rw [wrap_i64 h0 h1]; exact h)
/-- A loop by an invariant and a measure. -/
theorem loop_by_unused : True := trivial
theorem x_loopI {P : Program} {n : Nat} {b : XC} {Q : XE → XS → Prop} {s : XS} (I : Nat → (Nat → PV) → List Content → Prop) (m : Nat) (h0 : I m s.r s.st) (h : ∀ m f st, I m f st → xexec P n b (thenX (fun s1 => ∃ m' s', m' < m ∧ Ghost P n s1 s' ∧ I m' s'.r s'.st) Q) ⟨f, st⟩) : xexec P n (.loop b) Q s :=
  ⟨fun m s => I m s.r s.st, ⟨m, s, .refl s, h0⟩, fun m s hi => h m s.r s.st hi⟩
theorem next_i {P : Program} {n m m' : Nat} {f : Nat → PV} {st : List Content} {I : Nat → (Nat → PV) → List Content → Prop} (hm : m' < m) (h : I m' f st) : ∃ m' s', m' < m ∧ Ghost P n ⟨f, st⟩ s' ∧ I m' s'.r s'.st := ⟨m', ⟨f, st⟩, hm, .refl _, h⟩
theorem len_bytesRows (b : ByteArray) : (bytesRows b).length = b.size := by rw [bytesRows, List.length_map, Array.length_toList]; rfl
theorem get_bytesRows {b : ByteArray} {n : Int} (h0 : 0 ≤ n) (h : n < b.size) : (bytesRows b)[n.toNat]? = some [.int .u8 (byteAt b n.toNat)] := by
  have hlt : n.toNat < b.data.size := by have : b.data.size = b.size := rfl; omega
  have e : b.data[n.toNat]? = some b.data[n.toNat] := Array.getElem?_eq_getElem hlt
  simp only [bytesRows, byteAt, List.getElem?_map, Array.getElem?_toList, e, Option.map_some, Option.getD_some]

section
variable {P : Program} {m : Mode} {r : List XI} {K : XS → Prop} {f : Nat → PV} {st : List Content} {d nm : Nat} {n : Nat} {Q : XE → XS → Prop} {s : XS}
theorem o_notD {x : XA} {p : Prop} {_ : Decidable p} (hx : ev ⟨f, st⟩ x = .d (.bool (decide p))) (h : xrun P m r K ⟨upd f d (.d (.bool (decide (¬ p)))), st⟩) : xrun P m (⟨some d, .not x, none, nm⟩ :: r) K ⟨f, st⟩ := by
  refine o_not hx ?_
  have e : (!decide p) = decide (¬ p) := by simp
  rw [e]; exact h
theorem g_splitD {o : XOp} {ds : Option Nat} {t : Nat} {want : Bool} {p : Prop} {_ : Decidable p} (ht : f t = .d (.bool (decide p))) (h1 : p → xrun P m (⟨ds, o, some (t, want), nm⟩ :: r) K ⟨upd f t (.d (.bool true)), st⟩) (h2 : ¬ p → xrun P m (⟨ds, o, some (t, want), nm⟩ :: r) K ⟨upd f t (.d (.bool false)), st⟩) :
    xrun P m (⟨ds, o, some (t, want), nm⟩ :: r) K ⟨f, st⟩ := g_split ht (fun e => h1 (of_decide_eq_true e)) (fun e => h2 (of_decide_eq_false e))
theorem x_condD {c : XA} {a b : XC} {p : Prop} {_ : Decidable p} (hc : ev s c = .d (.bool (decide p))) (h1 : p → xexec P n a Q s) (h2 : ¬ p → xexec P n b Q s) : xexec P n (.cond c a b) Q s := x_cond hc (fun e => h1 (of_decide_eq_true e)) (fun e => h2 (of_decide_eq_false e))
theorem o_pickD {c x y : XA} {p : Prop} {_ : Decidable p} {u v : PV} (hc : ev ⟨f, st⟩ c = .d (.bool (decide p))) (hx : ev ⟨f, st⟩ x = u) (hy : ev ⟨f, st⟩ y = v) (h1 : p → xrun P m r K ⟨upd f d u, st⟩) (h2 : ¬ p → xrun P m r K ⟨upd f d v, st⟩) :
    xrun P m (⟨some d, .pick c x y, none, nm⟩ :: r) K ⟨f, st⟩ := o_pick hc hx hy (fun e => h1 (of_decide_eq_true e)) (fun e => h2 (of_decide_eq_false e))
end

section
variable {s : XS} {st : List Content} {f : Nat → PV} {a : XA} {p q : PV} {qs : List PV} {l : List XA} {x : D} {ds : List D} {rows : List (List D)} {n : Nat}
theorem td_nil : toDs st [] = some [] := rfl
theorem td_cons (h : frz st q = .d x) (hr : toDs st qs = some ds) : toDs st (q :: qs) = some (x :: ds) := by simp only [toDs, toD, h, hr]
theorem rw_nil : rowsOf s n [] = some [] := rfl
theorem rw_cons (h : ev ⟨f, st⟩ a = p) (hc : p.cells = qs) (hd : toDs st qs = some ds) (hl : (ds.length == n) = true) (hr : rowsOf ⟨f, st⟩ n l = some rows) : rowsOf ⟨f, st⟩ n (a :: l) = some (ds :: rows) := by
  have e : ds.length = n := by simpa using hl
  simp only [rowsOf, h, hc, hd, hr, e, if_true]
end
end Go.Ax
