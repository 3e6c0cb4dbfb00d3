import Derived.Test.YtojkpenjeglipaaGreatTAxIt
set_option linter.unusedVariables false
namespace Go.Ax
theorem EH {n : Int} (h0 : -9223372036854775808 ≤ n) (h1 : n < 9223372036854775808) : IntKind.i64.wrap n = n := by
 simp [IntKind.wrap, IntKind.bits, IntKind.signed]
 omega
theorem Aw.then {P : Program} {f : FuncId} {args : List PV} {st : List Content} {v : PV} {K : PV → List Content → Prop} (h : Aw P f args st (fun p st' => p = v ∧ st' = st)) (hk : K v st) : Aw P f args st K :=
 h.mono fun p st' hp => by rw [hp.1, hp.2]; exact hk
def u0 : Nat → PV := fun _ => .undef
theorem Cd3 : Qt [] = u0 := by funext i; simp [Qt, u0]
theorem CE (a : PV) : Qt [a] = upd u0 0 a := by
 funext i; simp only [Qt, upd, u0]; cases i with | zero => rfl | succ i => simp
theorem ED (a b : PV) : Qt [a, b] = upd (upd u0 1 b) 0 a := by
 funext i; simp only [Qt, upd, u0]; match i with | 0 => rfl | 1 => rfl | i + 2 => simp
theorem Bw4 (a b c : PV) : Qt [a, b, c] = upd (upd (upd u0 2 c) 1 b) 0 a := by
 funext i; simp only [Qt, upd, u0]; match i with | 0 => rfl | 1 => rfl | 2 => rfl | i + 3 => simp
inductive Mode where
 | seq
 | pre (base : Nat)
def Bf (P : Program) : Mode → List XI → (XS → Prop) → XS → Prop
 | .seq => FA P
 | .pre base => F2 P base
section
variable {P : Program} {m : Mode} {r : List XI} {K : XS → Prop} {f : Nat → PV} {st : List Content} {d nm : Nat}
theorem Cu {o : XOp} (hp : Dp o = true) (h : xop P o (fun v _ => Bf P m r K ⟨upd f d v, st⟩) ⟨f, st⟩) : Bf P m (⟨some d, o, none, nm⟩ :: r) K ⟨f, st⟩ := by
 cases m with
 | seq =>
   show xop P o (fun v st' => FA P r K ⟨upd f d v, st'⟩) ⟨f, st⟩
   rw [Cb3 (s := ⟨f, st⟩) (s2 := ⟨f, st⟩) hp (fun _ _ => rfl) (fun _ _ => rfl)]
   exact h
 | pre base =>
   show Gp P o (base + nm) (fun v U _ => F2 P base r K ⟨upd f d v, CI st U⟩) ⟨f, st⟩
   cases o <;> first | exact h | simp [Dp] at hp
theorem Aa (h : K ⟨f, st⟩) : Bf P m [] K ⟨f, st⟩ := by cases m <;> exact h
theorem Ce6 {l : List Content} {n : Nat} (hn : st.length = n) (i : Nat) : (st ++ l)[n + i]? = l[i]? := by subst hn; rw [List.getElem?_append_right (by omega)]; simp
theorem AU9 {l : List Content} {x : Nat} {c : Content} (h : st[x]? = some c) : (st ++ l)[x]? = some c := by rw [List.getElem?_append_left (List.getElem?_eq_some_iff.1 h).1]; exact h
theorem BD {l : List Content} {n : Nat} (hn : st.length = n) (i : Nat) (c : Content) : (st ++ l).set (n + i) c = st ++ l.set i c := by subst hn; rw [List.set_append_right _ _ (by omega)]; simp
theorem Ce8 {l : List Content} {x : Nat} {c0 c : Content} (h : st[x]? = some c0) : (st ++ l).set x c = st.set x c ++ l := by rw [List.set_append_left _ _ (List.getElem?_eq_some_iff.1 h).1]
theorem Cb5 {x n : Nat} {c : Content} (h : st.length = n) : (st.set x c).length = n := by simp [h]
theorem AS {P : Program} {n : Nat} {c : XC} {Q : XE → XS → Prop} (h : BH P n c Q ⟨f, st ++ []⟩) : BH P n c Q ⟨f, st⟩ := by simpa using h
theorem Ab {x : XA} {v : PV} (hx : ev ⟨f, st⟩ x = v) (h : Bf P m r K ⟨upd f d v, st⟩) : Bf P m (⟨some d, .move x, none, nm⟩ :: r) K ⟨f, st⟩ := by
 subst hx; exact Cu rfl h
theorem BY9 {c x y : XA} {t : Bool} {p q : PV} (hc : ev ⟨f, st⟩ c = .d (.bool t)) (hx : ev ⟨f, st⟩ x = p) (hy : ev ⟨f, st⟩ y = q) (h1 : t = true → Bf P m r K ⟨upd f d p, st⟩) (h2 : t = false → Bf P m r K ⟨upd f d q, st⟩) :
   Bf P m (⟨some d, .pick c x y, none, nm⟩ :: r) K ⟨f, st⟩ := by
 refine Cu rfl ?_
 simp only [xop, hc, hx, hy]
 cases p <;> first | (exact ⟨h1, h2⟩) | skip
 rename_i a
 cases a <;> first | (exact ⟨h1, h2⟩) | skip
 rename_i a
 cases q <;> first | (exact ⟨h1, h2⟩) | skip
 rename_i b
 cases b <;> first | (exact ⟨h1, h2⟩) | skip
 cases t
 · exact h2 rfl
 · exact h1 rfl
theorem Am {c x y : XA} {p : PV} (hc : ev ⟨f, st⟩ c = .d (.bool true)) (hx : ev ⟨f, st⟩ x = p) (h1 : Bf P m r K ⟨upd f d p, st⟩) :
   Bf P m (⟨some d, .pick c x y, none, nm⟩ :: r) K ⟨f, st⟩ := BY9 hc hx rfl (fun _ => h1) (fun e => (by cases e))
theorem An {c x y : XA} {q : PV} (hc : ev ⟨f, st⟩ c = .d (.bool false)) (hx : ev ⟨f, st⟩ y = q) (h1 : Bf P m r K ⟨upd f d q, st⟩) :
   Bf P m (⟨some d, .pick c x y, none, nm⟩ :: r) K ⟨f, st⟩ := BY9 hc rfl hx (fun e => (by cases e)) (fun _ => h1)
theorem T2 {zero : List PV} {parts : List (Nat × Nat × XA)} {cs : List PV} (h1 : DU ⟨f, st⟩ zero.length parts) (h2 : Gk ⟨f, st⟩ zero parts = cs) (h : Bf P m r K ⟨upd f d (.agg cs), st⟩) : Bf P m (⟨some d, .build zero parts, none, nm⟩ :: r) K ⟨f, st⟩ := by
 subst h2; exact Cu rfl ⟨h1, h⟩
theorem DW {size : Nat} {parts : List XA} {rows : List (List D)} (h1 : C2 ⟨f, st⟩ size parts = some rows) (h : Bf P m r K ⟨upd f d (.ex rows), st⟩) : Bf P m (⟨some d, .buildSlice size parts, none, nm⟩ :: r) K ⟨f, st⟩ := by
 refine Cu rfl ?_; simp only [xop, h1]; exact h
theorem Ao {size : Nat} {x : XA} {b off : Nat} {cells : List PV} {p : PV} (hx : ev ⟨f, st⟩ x = .ptr b off) (hb : st[b]? = some (.box cells)) (hc : cells[off]? = some p) (h : Bf P m r K ⟨upd f d p, st⟩) :
   Bf P m (⟨some d, .load false size x, none, nm⟩ :: r) K ⟨f, st⟩ := by
 refine Cu rfl ?_; simp only [xop, hx, hb, Bool.false_eq_true, if_false, hc]; exact h
theorem Cn {size : Nat} {x : XA} {b off : Nat} {cells cs : List PV} (hx : ev ⟨f, st⟩ x = .ptr b off) (hb : st[b]? = some (.box cells)) (hl : off + size ≤ cells.length) (hc : (cells.drop off).take size = cs) (h : Bf P m r K ⟨upd f d (.agg cs), st⟩) :
   Bf P m (⟨some d, .load true size x, none, nm⟩ :: r) K ⟨f, st⟩ := by
 subst hc; refine Cu rfl ?_; simp only [xop, hx, hb, if_true]; exact ⟨hl, h⟩
theorem BF {size : Nat} {x : XA} {cells : List D} {v : D} (hx : ev ⟨f, st⟩ x = .dp cells) (hc : cells[0]? = some v) (h : Bf P m r K ⟨upd f d (.d v), st⟩) :
   Bf P m (⟨some d, .load false size x, none, nm⟩ :: r) K ⟨f, st⟩ := by
 refine Cu rfl ?_; simp only [xop, hx, Bool.false_eq_true, if_false, hc]; exact h
theorem Ft {size : Nat} {x : XA} {cells : List D} {cs : List PV} (hx : ev ⟨f, st⟩ x = .dp cells) (hl : size ≤ cells.length) (hc : (cells.take size).map .d = cs) (h : Bf P m r K ⟨upd f d (.agg cs), st⟩) :
   Bf P m (⟨some d, .load true size x, none, nm⟩ :: r) K ⟨f, st⟩ := by
 subst hc; refine Cu rfl ?_; simp only [xop, hx, if_true]; exact ⟨hl, h⟩
theorem Ag1 {x : XA} {b off : Nat} (hx : ev ⟨f, st⟩ x = .ptr b off) (h : Bf P m r K ⟨upd f d (.ptr b off), st⟩) : Bf P m (⟨some d, .nilCheck x, none, nm⟩ :: r) K ⟨f, st⟩ := by
 refine Cu rfl ?_; simp only [xop, hx]; exact h
theorem Ap {op : BinOp} {x y : XA} {a b : D} (hx : ev ⟨f, st⟩ x = .d a) (hy : ev ⟨f, st⟩ y = .d b) (h : EO op (fun v => Bf P m r K ⟨upd f d (.d v), st⟩) a b) : Bf P m (⟨some d, .bin op x y, none, nm⟩ :: r) K ⟨f, st⟩ := by
 refine Cu rfl ?_; simp only [xop, hx, hy]; exact h
theorem Ca8 {neg : Bool} {x y : XA} {a b : Bool} (hx : ev ⟨f, st⟩ x = .d (.bool a)) (hy : ev ⟨f, st⟩ y = .d (.bool b)) (h : Bf P m r K ⟨upd f d (.d (.bool (if neg then !(a == b) else a == b))), st⟩) : Bf P m (⟨some d, .eqBool neg x y, none, nm⟩ :: r) K ⟨f, st⟩ := by
 refine Cu rfl ?_; simp only [xop, hx, hy]; exact h
theorem CN {x : XA} {b : Bool} (hx : ev ⟨f, st⟩ x = .d (.bool b)) (h : Bf P m r K ⟨upd f d (.d (.bool (!b))), st⟩) : Bf P m (⟨some d, .not x, none, nm⟩ :: r) K ⟨f, st⟩ := by
 refine Cu rfl ?_; simp only [xop, hx]; exact h
theorem An2 {x : XA} {k k' : IntKind} {n : Int} (hx : ev ⟨f, st⟩ x = .d (.int k' n)) (h : Bf P m r K ⟨upd f d (.d (.int k (k.wrap n))), st⟩) : Bf P m (⟨some d, .toInt k x, none, nm⟩ :: r) K ⟨f, st⟩ := by
 refine Cu rfl ?_; simp only [xop, hx]; exact h
theorem BQ5 {x : XA} {b : ByteArray} (hx : ev ⟨f, st⟩ x = .d (.str b)) (h : Bf P m r K ⟨upd f d (.d (.sl (FL b))), st⟩) : Bf P m (⟨some d, .toBytes x, none, nm⟩ :: r) K ⟨f, st⟩ := by
 refine Cu rfl ?_; simp only [xop, hx]; exact h
theorem AA {off o : Nat} {x : XA} {b : Nat} (hx : ev ⟨f, st⟩ x = .ptr b o) {o' : Nat} (ho : o + off = o') (h : Bf P m r K ⟨upd f d (.ptr b o'), st⟩) : Bf P m (⟨some d, .fieldAddr off x, none, nm⟩ :: r) K ⟨f, st⟩ := by
 subst ho; refine Cu rfl ?_; simp only [xop, hx]; exact h
theorem No {off : Nat} {x : XA} {cells cells' : List D} (hx : ev ⟨f, st⟩ x = .dp cells) (ho : cells.drop off = cells') (h : Bf P m r K ⟨upd f d (.dp cells'), st⟩) : Bf P m (⟨some d, .fieldAddr off x, none, nm⟩ :: r) K ⟨f, st⟩ := by
 subst ho; refine Cu rfl ?_; simp only [xop, hx]; exact h
theorem Ci7 {size : Nat} {x i : XA} {rows : List (List D)} {k : IntKind} {n : Int} (hx : A4 st (ev ⟨f, st⟩ x) = some rows) (hi : ev ⟨f, st⟩ i = .d (.int k n)) (h0 : 0 ≤ n) (h1 : n < rows.length) {row : List D} (hr : rows[n.toNat]? = some row) (hl : row.length = size)
   (h : Bf P m r K ⟨upd f d (.dp row), st⟩) : Bf P m (⟨some d, .indexAddr size x i, none, nm⟩ :: r) K ⟨f, st⟩ := by
 refine Cu rfl ?_; simp only [xop, hx, hi]; exact ⟨h0, h1, fun row' hr' => by rw [hr] at hr'; cases hr'; exact ⟨hl, h⟩⟩
theorem Cg8 {x i : XA} {b : ByteArray} {k : IntKind} {n : Int} (hx : ev ⟨f, st⟩ x = .d (.str b)) (hi : ev ⟨f, st⟩ i = .d (.int k n)) (h0 : 0 ≤ n) (h1 : n < b.size) (h : Bf P m r K ⟨upd f d (.d (.int .u8 (YD b n.toNat))), st⟩) : Bf P m (⟨some d, .indexStr x i, none, nm⟩ :: r) K ⟨f, st⟩ := by
 refine Cu rfl ?_; simp only [xop, hx, hi]; exact ⟨h0, h1, h⟩
theorem I2 {x : XA} {b : ByteArray} (hx : ev ⟨f, st⟩ x = .d (.str b)) (h : Bf P m r K ⟨upd f d (.d (.int .i64 b.size)), st⟩) : Bf P m (⟨some d, .lenS x, none, nm⟩ :: r) K ⟨f, st⟩ := by
 refine Cu rfl ?_; simp only [xop, hx]; exact h
theorem Cg4 {x : XA} {rows : List (List D)} (hx : A4 st (ev ⟨f, st⟩ x) = some rows) (h : Bf P m r K ⟨upd f d (.d (.int .i64 rows.length)), st⟩) : Bf P m (⟨some d, .lenR x, none, nm⟩ :: r) K ⟨f, st⟩ := by
 refine Cu rfl ?_; simp only [xop, hx]; exact h
theorem Bl7 {mx : Bool} {x : XA} {xs : List XA} {k : IntKind} {n : Int} (hx : ev ⟨f, st⟩ x = .d (.int k n)) (h : mmD mx ⟨f, st⟩ n xs (fun v => Bf P m r K ⟨upd f d (.d (.int k v)), st⟩) k) : Bf P m (⟨some d, .minmax mx x xs, none, nm⟩ :: r) K ⟨f, st⟩ := by
 refine Cu rfl ?_; simp only [xop, hx]; exact h
theorem MZ {x : XA} {i : Nat} {vs : List PV} {p : PV} (hx : ev ⟨f, st⟩ x = .tup vs) (hp : vs[i]? = some p) (h : Bf P m r K ⟨upd f d p, st⟩) : Bf P m (⟨some d, .extract x i, none, nm⟩ :: r) K ⟨f, st⟩ := by
 refine Cu rfl ?_; simp only [xop, hx, hp]; exact h
theorem Aj {o : XOp} {ds : Option Nat} {t : Nat} {want : Bool} (ht : f t = .d (.bool want)) (h : Bf P m (⟨ds, o, none, nm⟩ :: r) K ⟨f, st⟩) : Bf P m (⟨ds, o, some (t, want), nm⟩ :: r) K ⟨f, st⟩ := by
 cases m with
 | seq => simp only [Bf, FA, ht]; exact ⟨fun _ => h, fun e => (by cases want <;> cases e)⟩
 | pre base => simp only [Bf, F2, ht]; exact ⟨fun _ => h, fun e => (by cases want <;> cases e)⟩
theorem Ah {o : XOp} {t : Nat} {want : Bool} (ht : f t = .d (.bool (!want))) (h : Bf P m r K ⟨upd f d (.tup []), st⟩) : Bf P m (⟨some d, o, some (t, want), nm⟩ :: r) K ⟨f, st⟩ := by
 cases m with
 | seq => simp only [Bf, FA, ht]; exact ⟨fun e => (by cases want <;> cases e), fun _ => h⟩
 | pre base => simp only [Bf, F2, ht]; exact ⟨fun e => (by cases want <;> cases e), fun _ => h⟩
theorem A6 {o : XOp} {t : Nat} {want : Bool} (ht : f t = .tup []) (h : Bf P m r K ⟨upd f d (.tup []), st⟩) : Bf P m (⟨some d, o, some (t, want), nm⟩ :: r) K ⟨f, st⟩ := by
 cases m with
 | seq => simp only [Bf, FA, ht]; exact h
 | pre base => simp only [Bf, F2, ht]; exact h
theorem AH4 {t : Nat} {p : PV} (h : f t = p) : upd f t p = f := by funext i; simp only [upd]; split <;> simp_all
variable {l : List Content} {n0 k : Nat}
theorem GV {x : XA} {cs : List PV} (hn : st.length = n0) (hk : l.length = k) {px : PV} (hx : ev ⟨f, st ++ l⟩ x = px) (hc : px.cells = cs) (h1 : cs.all PV.one = true) (h : Bf P .seq r K ⟨upd f d (.ptr (n0 + k) 0), st ++ (l ++ [.box cs])⟩) : Bf P .seq (⟨some d, .box x, none, nm⟩ :: r) K ⟨f, st ++ l⟩ := by
 subst hx; subst hc; subst hn; subst hk
 rw [← List.append_assoc, ← List.length_append] at h
 exact ⟨h1, h⟩
theorem Dv {zero : List PV} (hn : st.length = n0) (hk : l.length = k) (h : Bf P .seq r K ⟨upd f d (.ptr (n0 + k) 0), st ++ (l ++ [.box zero])⟩) : Bf P .seq (⟨some d, .alloc zero, none, nm⟩ :: r) K ⟨f, st ++ l⟩ := by
 subst hn; subst hk
 rw [← List.append_assoc, ← List.length_append] at h
 exact h
theorem BB {size : Nat} {x y : XA} {b off : Nat} {cells cs : List PV} (hx : ev ⟨f, st⟩ x = .ptr b off) (hb : st[b]? = some (.box cells)) {py : PV} (hy : ev ⟨f, st⟩ y = py) (hc : py.cells = cs) (hl : cs.length = size) (hl2 : off + size ≤ cells.length) (h1 : cs.all PV.one = true)
   {cells' : List PV} (hs : splice cells off cs = cells') {st' : List Content} (hst : st.set b (.box cells') = st') (h : Bf P m r K ⟨f, st'⟩) : Bf P m (⟨none, .store size x y, none, nm⟩ :: r) K ⟨f, st⟩ := by
 subst hy; subst hc; subst hs; subst hst
 cases m with
 | seq => simp only [Bf, FA, xop, hx, hb]; exact ⟨hl, hl2, h1, h⟩
 | pre base => simp only [Bf, F2, Gp, hx, hb]; exact ⟨hl, hl2, h1, h⟩
theorem Cd0 {neg : Bool} {x : XA} {rows : List (List D)} (hx : A4 st (ev ⟨f, st⟩ x) = some rows) (h1 : rows = [] → Bf P .seq r K ⟨upd f d (.d (.bool (!neg))), st⟩) (h2 : Bf P .seq r K ⟨upd f d (.d (.bool neg)), st⟩) : Bf P .seq (⟨some d, .eqNil neg x, none, nm⟩ :: r) K ⟨f, st⟩ := by
 simp only [Bf, FA, xop, hx]; exact ⟨h1, h2⟩
theorem Ch3 {e size bytes : Nat} {x y : XA} {rows ys : List (List D)} (hn : st.length = n0) (hk : l.length = k) (hy : A4 (st ++ l) (ev ⟨f, st ++ l⟩ y) = some ys) (hz : ∀ row, row ∈ ys → row.length = size) (hx : ev ⟨f, st ++ l⟩ x = .ex rows) (hzx : ∀ row, row ∈ rows → row.length = size) (hb : (rows.length + ys.length) * bytes ≤ 140737488355328)
   (h : Bf P .seq r K ⟨upd f d (.own (n0 + k) 1), st ++ (l ++ [.row e 1 (rows ++ ys)])⟩) : Bf P .seq (⟨some d, .append e size bytes x y, none, nm⟩ :: r) K ⟨f, st ++ l⟩ := by
 subst hn; subst hk
 rw [← List.append_assoc, ← List.length_append] at h
 simp only [Bf, FA, xop, hx, hy]; exact ⟨hz, hzx, hb, h⟩
theorem Cg5 {e size bytes : Nat} {x y : XA} {t ver : Nat} {rows ys : List (List D)} (hy : A4 st (ev ⟨f, st⟩ y) = some ys) (hz : ∀ row, row ∈ ys → row.length = size) (hx : ev ⟨f, st⟩ x = .own t ver) (ht : st[t]? = some (.row e ver rows)) (hb : (rows.length + ys.length) * bytes ≤ 140737488355328)
   {st' : List Content} (hst : st.set t (.row e (ver + 1) (rows ++ ys)) = st') (h : Bf P m r K ⟨upd f d (.own t (ver + 1)), st'⟩) : Bf P m (⟨some d, .append e size bytes x y, none, nm⟩ :: r) K ⟨f, st⟩ := by
 subst hst
 cases m with
 | seq => simp only [Bf, FA, xop, hx, hy, ht]; exact ⟨hz, trivial, trivial, hb, h⟩
 | pre base => simp only [Bf, F2, Gp, hx, hy, ht]; exact ⟨hz, trivial, trivial, hb, h⟩
theorem AY {g : FuncId} {args : List XA} {vs : List PV} (ha : args.map (fun a => Dh st (ev ⟨f, st⟩ a)) = vs) (h : Aw P g vs st (fun v st' => Bf P .seq r K ⟨upd f d v, st'⟩)) : Bf P .seq (⟨some d, .call g args, none, nm⟩ :: r) K ⟨f, st⟩ := by
 subst ha; exact h
theorem Ce1 {base : Nat} {g : FuncId} {args : List XA} {vs : List PV} {v : PV} (ha : args.map (fun a => Dh st (ev ⟨f, st⟩ a)) = vs) (h : ∀ st2, Aw P g vs st2 (fun p st' => p = v ∧ st' = st2)) (hk : Bf P (.pre base) r K ⟨upd f d v, st⟩) : Bf P (.pre base) (⟨some d, .call g args, none, nm⟩ :: r) K ⟨f, st⟩ := by
 subst ha
 exact ⟨v, [], [], fun st2 _ _ => (h st2).mono fun p st' hp => .inl hp, hk⟩
theorem BG3 {x : XA} {args : List XA} {g : FuncId} {ps qs ws vs : List PV} (hx : ev ⟨f, st⟩ x = .fn g ps qs) (ha : args.map (fun a => Dh st (ev ⟨f, st⟩ a)) = ws) (hw : ps ++ ws ++ qs = vs) (h : Aw P g vs st (fun v st' => Bf P .seq r K ⟨upd f d v, st'⟩)) : Bf P .seq (⟨some d, .dyn x args, none, nm⟩ :: r) K ⟨f, st⟩ := by
 subst hw; subst ha; simp only [Bf, FA, xop, hx]; exact h
theorem e_c {s : XS} {p : PV} : ev s (.c p) = p := rfl
theorem e_t {i : Nat} {v : PV} (h : f i = v) : ev ⟨f, st⟩ (.t i) = v := h
theorem eh {v : PV} : upd f d v d = v := by simp [upd]
theorem em {i : Nat} {v p : PV} (hne : (i == d) = false) (h : f i = v) : upd f d p i = v := by
 simp only [upd, if_neg (show ¬ i = d by simpa using hne)]; exact h
variable {n : Nat} {Q : XE → XS → Prop} {s : XS}
theorem AM (h : Q .normal s) : BH P n .skip Q s := h
theorem Af {l : List XI} (h : Bf P .seq l (Q .normal) s) : BH P n (.region l) Q s := h
theorem EQ {is : List XI} {nf n0 k : Nat} {l : List Content} (hn : st.length = n0) (hk : l.length = k) (h : Bf P (.pre (n0 + k)) is (Q .normal) ⟨f, st ++ (l ++ List.replicate nf .fresh)⟩) : BH P n (.regionS is nf) Q ⟨f, st ++ l⟩ := by
 subst hn; subst hk
 simp only [BH, List.append_assoc, List.length_append]
 exact h
theorem Al {a b : XC} (h : BH P n a (Hp (BH P n b Q) Q) s) : BH P n (.seq a b) Q s := h
theorem DC {c : XA} {a b : XC} (hc : ev s c = .d (.bool true)) (h : BH P n a Q s) : BH P n (.cond c a b) Q s := by
 simp only [BH, hc]; exact ⟨fun _ => h, fun e => by cases e⟩
theorem FO {c : XA} {a b : XC} (hc : ev s c = .d (.bool false)) (h : BH P n b Q s) : BH P n (.cond c a b) Q s := by
 simp only [BH, hc]; exact ⟨fun e => (by cases e), fun _ => h⟩
theorem A3 {id : Nat} {b : XC} (h : BH P n b (Cq id Q) s) : BH P n (.block id b) Q s := h
theorem Dj {id : Nat} (h : Q (.exit id) s) : BH P n (.exit id) Q s := h
theorem AH (h : Q .ret s) : BH P n .ret Q s := h
theorem Ae {K' : XS → Prop} (h : K' s) : Hp K' Q .normal s := h
theorem A8 {K' : XS → Prop} {id : Nat} (h : Q (.exit id) s) : Hp K' Q (.exit id) s := h
theorem Ay {K' : XS → Prop} (h : Q .ret s) : Hp K' Q .ret s := h
theorem BQ {id : Nat} (h : Q .normal s) : Cq id Q .normal s := h
theorem Bw {id : Nat} (h : Q .ret s) : Cq id Q .ret s := h
theorem Fo {id : Nat} (h : Q .normal s) : Cq id Q (.exit id) s := by simp only [Cq, if_true]; exact h
end
theorem A5 {P : Program} {n : Nat} {res : List XRes} {R : PV → List Content → Prop} {s : XS} {ps : List PV} {v : PV} {st' : List Content} (h1 : Dl s res = some ps) (h2 : cutV n (Dh s.st (FZ ps)) = v) (h3 : HI n s.st = st') (h : R v st') : V4 P n res R .ret s := by
 subst h2; subst h3; exact ⟨ps, h1, h⟩
theorem Ch5 {P : Program} {n : Nat} {res : List XRes} {R : PV → List Content → Prop} {s : XS} {ps : List PV} {v : PV} {st' : List Content} (h1 : Dl s res = some ps) (h2 : cutV n (Dh s.st (FZ ps)) = v) (h3 : HI n s.st = st') (h : R v st') : V4 P n res R .normal s := by
 subst h2; subst h3; exact ⟨ps, h1, h⟩
section
variable {K : D → Prop} {k : IntKind} {a b : Int}
theorem B4 (h : K (.int k (k.wrap (a + b)))) : EO .add K (.int k a) (.int k b) := ⟨rfl, h⟩
theorem BA1 (h : K (.int k (k.wrap (a - b)))) : EO .sub K (.int k a) (.int k b) := ⟨rfl, h⟩
theorem Cj8 (h0 : b ≠ 0) (h : K (.int k (a.tmod b))) : EO .rem K (.int k a) (.int k b) := ⟨rfl, h0, h⟩
theorem Ck4 {k' : IntKind} (h0 : 0 ≤ b) (h : K (.int k (a.fdiv (2 ^ (min b.toNat k.bits))))) : EO .shr K (.int k a) (.int k' b) := ⟨h0, h⟩
theorem Ci (h : K (.bool (decide (a = b)))) : EO .eql K (.int k a) (.int k b) := by
 have e : (a == b) = decide (a = b) := by rw [Bool.eq_iff_iff]; simp
 exact ⟨rfl, by rw [e]; exact h⟩
theorem Da (h : K (.bool (decide (a < b)))) : EO .lss K (.int k a) (.int k b) := ⟨rfl, h⟩
theorem M5 (h : K (.bool (decide (a ≤ b)))) : EO .leq K (.int k a) (.int k b) := ⟨rfl, h⟩
theorem toList_eq (x y : ByteArray) : (x.toList == y.toList) = decide (x = y) := by
 have h : ∀ x : ByteArray, x.toList = x.data.toList := fun x => ByteArray.toList_eq x
 rw [Bool.eq_iff_iff, beq_iff_eq, decide_eq_true_iff, h, h]
 constructor
 · intro e
   have : x.data = y.data := by apply Array.ext'; exact e
   cases x; cases y; simp_all
 · intro e; rw [e]
variable {x y : ByteArray}
theorem Do (h : K (.bool (decide (x = y)))) : EO .eql K (.str x) (.str y) := by
 show K (.bool (x.toList == y.toList)); rw [toList_eq]; exact h
end
section
variable {s : XS} {K : Int → Prop} {k : IntKind} {n i : Int} {a : XA} {r : List XA}
theorem Ag2 {mx : Bool} (h : K n) : mmD mx s n [] K k := h
theorem Bk0 {y : Int} (ha : ev s a = .d (.int k y)) (h : mmD true s (max n y) r K k) : mmD true s n (a :: r) K k := by
 simp only [mmD, ha, if_true]; exact ⟨trivial, h⟩
theorem BQ1 {y : Int} (ha : ev s a = .d (.int k y)) (h : mmD false s (min n y) r K k) : mmD false s n (a :: r) K k := by
 simp only [mmD, ha, Bool.false_eq_true, if_false]; exact ⟨trivial, h⟩
end
section
variable {f : Nat → PV} {st : List Content} {t : Nat} {rs : List XRes} {ps : List PV}
theorem AG : Dl ⟨f, st⟩ [] = some [] := rfl
theorem AE {v : PV} (h : f t = v) (hr : Dl ⟨f, st⟩ rs = some ps) : Dl ⟨f, st⟩ (.tmp t :: rs) = some (v :: ps) := by
 simp only [Dl, AP0, h, hr]
theorem Iz {b off size : Nat} {cells cs : List PV} (h : f t = .ptr b off) (hb : st[b]? = some (.box cells)) (hl : off + size ≤ cells.length) (hc : (cells.drop off).take size = cs) (hr : Dl ⟨f, st⟩ rs = some ps) : Dl ⟨f, st⟩ (.cell t true size :: rs) = some (.agg cs :: ps) := by
 subst hc; simp only [Dl, AP0, h, hb, hr, if_true, hl]
end
section
variable {s : XS} {st : List Content} {a : XA} {p q : PV} {l : List XA} {ps vs qs : List PV}
theorem A1 : [].map (fun a => Dh st (ev s a)) = [] := rfl
theorem Az (h : ev s a = p) (hq : Dh st p = q) (hr : l.map (fun a => Dh st (ev s a)) = ps) : (a :: l).map (fun a => Dh st (ev s a)) = q :: ps := by subst h; subst hq; subst hr; rfl
theorem AN {rows : List (List D)} (h : ev s a = p) (hr : A4 st p = some rows) : A4 st (ev s a) = some rows := by rw [h]; exact hr
theorem Mv {t e ver : Nat} {rows : List (List D)} (h : st[t]? = some (.row e ver rows)) : A4 st (.own t ver) = some rows := by simp [A4, h]
end
section
variable {st : List Content} {p q : PV} {ps qs : List PV} {x : D} {n off : Nat} {g : FuncId} {rows : List (List D)}
theorem AF : Dh st (.d x) = .d x := rfl
theorem At2 : Dh st (.ptr n off) = .ptr n off := rfl
theorem Y3 : Dh st (.fn g ps qs) = .fn g ps qs := rfl
theorem AU8 : Dh st (.ex rows) = .d (.sl rows) := rfl
theorem Bw1 {t e ver : Nat} (h : st[t]? = some (.row e ver rows)) : Dh st (.own t ver) = .d (.sl rows) := by simp [Dh, frz, h]
theorem Cw (h : ps.map (frz st) = qs) : Dh st (.agg ps) = .agg qs := by subst h; rfl
theorem Dg : [].map (frz st) = [] := rfl
theorem Aq (h : frz st p = q) (hr : ps.map (frz st) = qs) : (p :: ps).map (frz st) = q :: qs := by subst h; subst hr; rfl
theorem f_d : frz st (.d x) = .d x := rfl
theorem Cm2 : frz st (.ex rows) = .d (.sl rows) := rfl
theorem Ta {t e ver : Nat} (h : st[t]? = some (.row e ver rows)) : frz st (.own t ver) = .d (.sl rows) := by simp [frz, h]
theorem v_d : cutV n (.d x) = .d x := rfl
theorem AY4 (h : AP.belowL n ps = true) : cutV n (.agg ps) = .agg ps := by simp only [cutV, AP, h, if_true]
theorem Cj7 (h : AP.belowL n ps = true) : cutV n (.tup ps) = .tup ps := by simp only [cutV, AP, h, if_true]
theorem AK (h : Dh st p = q) {v : PV} (hv : cutV n q = v) : cutV n (Dh st (FZ [p])) = v := by subst h; exact hv
theorem Ch7 : cutV n (Dh st (FZ [])) = .tup [] := rfl
end
section
variable {x : D} {ps : List PV} {n off : Nat}
theorem A2 : (PV.d x).cells = [.d x] := rfl
theorem Bi : (PV.agg ps).cells = ps := rfl
theorem Bo {st : List Content} {rows : List (List D)} : A4 st (.d (.sl rows)) = some rows := rfl
theorem S4 {st : List Content} {rows : List (List D)} : A4 st (.ex rows) = some rows := rfl
end
section
variable {P : Program} {m : Mode} {r : List XI} {K : XS → Prop} {f : Nat → PV} {st : List Content} {d nm : Nat} {n : Nat} {Q : XE → XS → Prop} {s : XS}
end
section
variable {s : XS} {st : List Content} {f : Nat → PV} {a : XA} {p q : PV} {qs : List PV} {l : List XA} {x : D} {ds : List D} {rows : List (List D)} {n : Nat}
theorem AJ : Ie st [] = some [] := rfl
theorem Au (h : frz st q = .d x) (hr : Ie st qs = some ds) : Ie st (q :: qs) = some (x :: ds) := by simp only [Ie, toD, h, hr]
theorem FJ : C2 s n [] = some [] := rfl
theorem AC (h : ev ⟨f, st⟩ a = p) (hc : p.cells = qs) (hd : Ie st qs = some ds) (hl : (ds.length == n) = true) (hr : C2 ⟨f, st⟩ n l = some rows) : C2 ⟨f, st⟩ n (a :: l) = some (ds :: rows) := by
 have e : ds.length = n := by simpa using hl
 simp only [C2, h, hc, hd, hr, e, if_true]
end
end Go.Ax
