import Derived.Test.YtojkpenjeglipaaPAxIt
set_option linter.unusedVariables false
namespace Go.Ax
theorem EL {n : Int} (h0 : -9223372036854775808 ≤ n) (h1 : n < 9223372036854775808) : IntKind.i64.wrap n = n := by
 simp [IntKind.wrap, IntKind.bits, IntKind.signed]
 omega
theorem Av.then {P : Program} {f : FuncId} {args : List PV} {st : List Content} {v : PV} {K : PV → List Content → Prop} (h : Av P f args st (fun p st' => p = v ∧ st' = st)) (hk : K v st) : Av P f args st K :=
 h.mono fun p st' hp => by rw [hp.1, hp.2]; exact hk
def u0 : Nat → PV := fun _ => .undef
theorem AH0 : Nf [] = u0 := by funext i; simp [Nf, u0]
theorem B5 (a : PV) : Nf [a] = upd u0 0 a := by
 funext i; simp only [Nf, upd, u0]; cases i with | zero => rfl | succ i => simp
theorem Ed (a b : PV) : Nf [a, b] = upd (upd u0 1 b) 0 a := by
 funext i; simp only [Nf, upd, u0]; match i with | 0 => rfl | 1 => rfl | i + 2 => simp
theorem Yk (a b c : PV) : Nf [a, b, c] = upd (upd (upd u0 2 c) 1 b) 0 a := by
 funext i; simp only [Nf, upd, u0]; match i with | 0 => rfl | 1 => rfl | 2 => rfl | i + 3 => simp
inductive Mode where
 | seq
 | pre (base : Nat)
def Bg (P : Program) : Mode → List XI → (XS → Prop) → XS → Prop
 | .seq => EX P
 | .pre base => FK P base
section
variable {P : Program} {m : Mode} {r : List XI} {K : XS → Prop} {f : Nat → PV} {st : List Content} {d nm : Nat}
theorem Cl {o : XOp} (hp : Dp o = true) (h : xop P o (fun v _ => Bg P m r K ⟨upd f d v, st⟩) ⟨f, st⟩) : Bg P m (⟨some d, o, none, nm⟩ :: r) K ⟨f, st⟩ := by
 cases m with
 | seq =>
   show xop P o (fun v st' => EX P r K ⟨upd f d v, st'⟩) ⟨f, st⟩
   rw [AU1 (s := ⟨f, st⟩) (s2 := ⟨f, st⟩) hp (fun _ _ => rfl) (fun _ _ => rfl)]
   exact h
 | pre base =>
   show Hv P o (base + nm) (fun v U _ => FK P base r K ⟨upd f d v, DK st U⟩) ⟨f, st⟩
   cases o <;> first | exact h | simp [Dp] at hp
theorem Aa (h : K ⟨f, st⟩) : Bg P m [] K ⟨f, st⟩ := by cases m <;> exact h
theorem Am {l : List Content} {n : Nat} (hn : st.length = n) (i : Nat) : (st ++ l)[n + i]? = l[i]? := by subst hn; rw [List.getElem?_append_right (by omega)]; simp
theorem GL {l : List Content} {x : Nat} {c : Content} (h : st[x]? = some c) : (st ++ l)[x]? = some c := by rw [List.getElem?_append_left (List.getElem?_eq_some_iff.1 h).1]; exact h
theorem Bo {l : List Content} {n : Nat} (hn : st.length = n) (i : Nat) (c : Content) : (st ++ l).set (n + i) c = st ++ l.set i c := by subst hn; rw [List.set_append_right _ _ (by omega)]; simp
theorem Oi {l : List Content} {x : Nat} {c0 c : Content} (h : st[x]? = some c0) : (st ++ l).set x c = st.set x c ++ l := by rw [List.set_append_left _ _ (List.getElem?_eq_some_iff.1 h).1]
theorem AY {x n : Nat} {c : Content} (h : st.length = n) : (st.set x c).length = n := by simp [h]
theorem AQ {P : Program} {n : Nat} {c : XC} {Q : XE → XS → Prop} (h : BQ P n c Q ⟨f, st ++ []⟩) : BQ P n c Q ⟨f, st⟩ := by simpa using h
theorem Ab {x : XA} {v : PV} (hx : ev ⟨f, st⟩ x = v) (h : Bg P m r K ⟨upd f d v, st⟩) : Bg P m (⟨some d, .move x, none, nm⟩ :: r) K ⟨f, st⟩ := by
 subst hx; exact Cl rfl h
theorem AR0 {c x y : XA} {t : Bool} {p q : PV} (hc : ev ⟨f, st⟩ c = .d (.bool t)) (hx : ev ⟨f, st⟩ x = p) (hy : ev ⟨f, st⟩ y = q) (h1 : t = true → Bg P m r K ⟨upd f d p, st⟩) (h2 : t = false → Bg P m r K ⟨upd f d q, st⟩) :
   Bg P m (⟨some d, .pick c x y, none, nm⟩ :: r) K ⟨f, st⟩ := by
 refine Cl rfl ?_
 simp only [xop, hc, hx, hy]
 cases p <;> first | (exact ⟨h1, h2⟩) | skip
 rename_i a
 cases a <;> first | (exact ⟨h1, h2⟩) | skip
 rename_i a
 cases q <;> first | (exact ⟨h1, h2⟩) | skip
 rename_i b
 cases b <;> first | (exact ⟨h1, h2⟩) | skip
 cases t
 · exact h2 rfl
 · exact h1 rfl
theorem An {c x y : XA} {p : PV} (hc : ev ⟨f, st⟩ c = .d (.bool true)) (hx : ev ⟨f, st⟩ x = p) (h1 : Bg P m r K ⟨upd f d p, st⟩) :
   Bg P m (⟨some d, .pick c x y, none, nm⟩ :: r) K ⟨f, st⟩ := AR0 hc hx rfl (fun _ => h1) (fun e => (by cases e))
theorem Ao {c x y : XA} {q : PV} (hc : ev ⟨f, st⟩ c = .d (.bool false)) (hx : ev ⟨f, st⟩ y = q) (h1 : Bg P m r K ⟨upd f d q, st⟩) :
   Bg P m (⟨some d, .pick c x y, none, nm⟩ :: r) K ⟨f, st⟩ := AR0 hc rfl hx (fun e => (by cases e)) (fun _ => h1)
theorem II {zero : List PV} {parts : List (Nat × Nat × XA)} {cs : List PV} (h1 : Dq ⟨f, st⟩ zero.length parts) (h2 : FD ⟨f, st⟩ zero parts = cs) (h : Bg P m r K ⟨upd f d (.agg cs), st⟩) : Bg P m (⟨some d, .build zero parts, none, nm⟩ :: r) K ⟨f, st⟩ := by
 subst h2; exact Cl rfl ⟨h1, h⟩
theorem Db {size : Nat} {parts : List XA} {rows : List (List D)} (h1 : CR ⟨f, st⟩ size parts = some rows) (h : Bg P m r K ⟨upd f d (.ex rows), st⟩) : Bg P m (⟨some d, .buildSlice size parts, none, nm⟩ :: r) K ⟨f, st⟩ := by
 refine Cl rfl ?_; simp only [xop, h1]; exact h
theorem Ap {size : Nat} {x : XA} {b off : Nat} {cells : List PV} {p : PV} (hx : ev ⟨f, st⟩ x = .ptr b off) (hb : st[b]? = some (.box cells)) (hc : cells[off]? = some p) (h : Bg P m r K ⟨upd f d p, st⟩) :
   Bg P m (⟨some d, .load false size x, none, nm⟩ :: r) K ⟨f, st⟩ := by
 refine Cl rfl ?_; simp only [xop, hx, hb, Bool.false_eq_true, if_false, hc]; exact h
theorem Bw {size : Nat} {x : XA} {b off : Nat} {cells cs : List PV} (hx : ev ⟨f, st⟩ x = .ptr b off) (hb : st[b]? = some (.box cells)) (hl : off + size ≤ cells.length) (hc : (cells.drop off).take size = cs) (h : Bg P m r K ⟨upd f d (.agg cs), st⟩) :
   Bg P m (⟨some d, .load true size x, none, nm⟩ :: r) K ⟨f, st⟩ := by
 subst hc; refine Cl rfl ?_; simp only [xop, hx, hb, if_true]; exact ⟨hl, h⟩
theorem BI {size : Nat} {x : XA} {cells : List D} {v : D} (hx : ev ⟨f, st⟩ x = .dp cells) (hc : cells[0]? = some v) (h : Bg P m r K ⟨upd f d (.d v), st⟩) :
   Bg P m (⟨some d, .load false size x, none, nm⟩ :: r) K ⟨f, st⟩ := by
 refine Cl rfl ?_; simp only [xop, hx, Bool.false_eq_true, if_false, hc]; exact h
theorem Dc {size : Nat} {x : XA} {cells : List D} {cs : List PV} (hx : ev ⟨f, st⟩ x = .dp cells) (hl : size ≤ cells.length) (hc : (cells.take size).map .d = cs) (h : Bg P m r K ⟨upd f d (.agg cs), st⟩) :
   Bg P m (⟨some d, .load true size x, none, nm⟩ :: r) K ⟨f, st⟩ := by
 subst hc; refine Cl rfl ?_; simp only [xop, hx, if_true]; exact ⟨hl, h⟩
theorem Ny {x : XA} {b off : Nat} (hx : ev ⟨f, st⟩ x = .ptr b off) (h : Bg P m r K ⟨upd f d (.ptr b off), st⟩) : Bg P m (⟨some d, .nilCheck x, none, nm⟩ :: r) K ⟨f, st⟩ := by
 refine Cl rfl ?_; simp only [xop, hx]; exact h
theorem As {op : BinOp} {x y : XA} {a b : D} (hx : ev ⟨f, st⟩ x = .d a) (hy : ev ⟨f, st⟩ y = .d b) (h : EK op (fun v => Bg P m r K ⟨upd f d (.d v), st⟩) a b) : Bg P m (⟨some d, .bin op x y, none, nm⟩ :: r) K ⟨f, st⟩ := by
 refine Cl rfl ?_; simp only [xop, hx, hy]; exact h
theorem Aw3 {neg : Bool} {x y : XA} {a b : Bool} (hx : ev ⟨f, st⟩ x = .d (.bool a)) (hy : ev ⟨f, st⟩ y = .d (.bool b)) (h : Bg P m r K ⟨upd f d (.d (.bool (if neg then !(a == b) else a == b))), st⟩) : Bg P m (⟨some d, .eqBool neg x y, none, nm⟩ :: r) K ⟨f, st⟩ := by
 refine Cl rfl ?_; simp only [xop, hx, hy]; exact h
theorem C2 {x : XA} {b : Bool} (hx : ev ⟨f, st⟩ x = .d (.bool b)) (h : Bg P m r K ⟨upd f d (.d (.bool (!b))), st⟩) : Bg P m (⟨some d, .not x, none, nm⟩ :: r) K ⟨f, st⟩ := by
 refine Cl rfl ?_; simp only [xop, hx]; exact h
theorem RY {x : XA} {k k' : IntKind} {n : Int} (hx : ev ⟨f, st⟩ x = .d (.int k' n)) (h : Bg P m r K ⟨upd f d (.d (.int k (k.wrap n))), st⟩) : Bg P m (⟨some d, .toInt k x, none, nm⟩ :: r) K ⟨f, st⟩ := by
 refine Cl rfl ?_; simp only [xop, hx]; exact h
theorem AJ3 {x : XA} {b : ByteArray} (hx : ev ⟨f, st⟩ x = .d (.str b)) (h : Bg P m r K ⟨upd f d (.d (.sl (GE b))), st⟩) : Bg P m (⟨some d, .toBytes x, none, nm⟩ :: r) K ⟨f, st⟩ := by
 refine Cl rfl ?_; simp only [xop, hx]; exact h
theorem AB {off o : Nat} {x : XA} {b : Nat} (hx : ev ⟨f, st⟩ x = .ptr b o) {o' : Nat} (ho : o + off = o') (h : Bg P m r K ⟨upd f d (.ptr b o'), st⟩) : Bg P m (⟨some d, .fieldAddr off x, none, nm⟩ :: r) K ⟨f, st⟩ := by
 subst ho; refine Cl rfl ?_; simp only [xop, hx]; exact h
theorem MA {off : Nat} {x : XA} {cells cells' : List D} (hx : ev ⟨f, st⟩ x = .dp cells) (ho : cells.drop off = cells') (h : Bg P m r K ⟨upd f d (.dp cells'), st⟩) : Bg P m (⟨some d, .fieldAddr off x, none, nm⟩ :: r) K ⟨f, st⟩ := by
 subst ho; refine Cl rfl ?_; simp only [xop, hx]; exact h
theorem An4 {off size : Nat} {x : XA} {cells : List PV} {p : PV} (hx : ev ⟨f, st⟩ x = .agg cells) (hc : cells[off]? = some p) (h : Bg P m r K ⟨upd f d p, st⟩) : Bg P m (⟨some d, .field false off size x, none, nm⟩ :: r) K ⟨f, st⟩ := by
 refine Cl rfl ?_; simp only [xop, hx, Bool.false_eq_true, if_false, hc]; exact h
theorem AY5 {size : Nat} {x i : XA} {rows : List (List D)} {k : IntKind} {n : Int} (hx : A9 st (ev ⟨f, st⟩ x) = some rows) (hi : ev ⟨f, st⟩ i = .d (.int k n)) (h0 : 0 ≤ n) (h1 : n < rows.length) {row : List D} (hr : rows[n.toNat]? = some row) (hl : row.length = size)
   (h : Bg P m r K ⟨upd f d (.dp row), st⟩) : Bg P m (⟨some d, .indexAddr size x i, none, nm⟩ :: r) K ⟨f, st⟩ := by
 refine Cl rfl ?_; simp only [xop, hx, hi]; exact ⟨h0, h1, fun row' hr' => by rw [hr] at hr'; cases hr'; exact ⟨hl, h⟩⟩
theorem AW5 {x i : XA} {b : ByteArray} {k : IntKind} {n : Int} (hx : ev ⟨f, st⟩ x = .d (.str b)) (hi : ev ⟨f, st⟩ i = .d (.int k n)) (h0 : 0 ≤ n) (h1 : n < b.size) (h : Bg P m r K ⟨upd f d (.d (.int .u8 (SR b n.toNat))), st⟩) : Bg P m (⟨some d, .indexStr x i, none, nm⟩ :: r) K ⟨f, st⟩ := by
 refine Cl rfl ?_; simp only [xop, hx, hi]; exact ⟨h0, h1, h⟩
theorem Ij {x : XA} {b : ByteArray} (hx : ev ⟨f, st⟩ x = .d (.str b)) (h : Bg P m r K ⟨upd f d (.d (.int .i64 b.size)), st⟩) : Bg P m (⟨some d, .lenS x, none, nm⟩ :: r) K ⟨f, st⟩ := by
 refine Cl rfl ?_; simp only [xop, hx]; exact h
theorem AW4 {x : XA} {rows : List (List D)} (hx : A9 st (ev ⟨f, st⟩ x) = some rows) (h : Bg P m r K ⟨upd f d (.d (.int .i64 rows.length)), st⟩) : Bg P m (⟨some d, .lenR x, none, nm⟩ :: r) K ⟨f, st⟩ := by
 refine Cl rfl ?_; simp only [xop, hx]; exact h
theorem Ze {mx : Bool} {x : XA} {xs : List XA} {k : IntKind} {n : Int} (hx : ev ⟨f, st⟩ x = .d (.int k n)) (h : mmD mx ⟨f, st⟩ n xs (fun v => Bg P m r K ⟨upd f d (.d (.int k v)), st⟩) k) : Bg P m (⟨some d, .minmax mx x xs, none, nm⟩ :: r) K ⟨f, st⟩ := by
 refine Cl rfl ?_; simp only [xop, hx]; exact h
theorem AQ8 {size : Nat} {x : XA} {lo hi : Option XA} {rows : List (List D)} (hx : A9 st (ev ⟨f, st⟩ x) = some rows) (hz : ∀ row, row ∈ rows → row.length = size) (h : bnd ⟨f, st⟩ 0 (fun l => bnd ⟨f, st⟩ rows.length (fun h => 0 ≤ l ∧ l ≤ h ∧ h ≤ rows.length ∧ Bg P m r K ⟨upd f d (.d (.sl ((rows.take h.toNat).drop l.toNat))), st⟩) hi) lo) : Bg P m (⟨some d, .sliceR size x lo hi none, none, nm⟩ :: r) K ⟨f, st⟩ := by
 refine Cl rfl ?_; simp only [xop, hx]; exact ⟨hz, h⟩
theorem HP {x : XA} {i : Nat} {vs : List PV} {p : PV} (hx : ev ⟨f, st⟩ x = .tup vs) (hp : vs[i]? = some p) (h : Bg P m r K ⟨upd f d p, st⟩) : Bg P m (⟨some d, .extract x i, none, nm⟩ :: r) K ⟨f, st⟩ := by
 refine Cl rfl ?_; simp only [xop, hx, hp]; exact h
theorem Ai {o : XOp} {ds : Option Nat} {t : Nat} {want : Bool} (ht : f t = .d (.bool want)) (h : Bg P m (⟨ds, o, none, nm⟩ :: r) K ⟨f, st⟩) : Bg P m (⟨ds, o, some (t, want), nm⟩ :: r) K ⟨f, st⟩ := by
 cases m with
 | seq => simp only [Bg, EX, ht]; exact ⟨fun _ => h, fun e => (by cases want <;> cases e)⟩
 | pre base => simp only [Bg, FK, ht]; exact ⟨fun _ => h, fun e => (by cases want <;> cases e)⟩
theorem Ag {o : XOp} {t : Nat} {want : Bool} (ht : f t = .d (.bool (!want))) (h : Bg P m r K ⟨upd f d (.tup []), st⟩) : Bg P m (⟨some d, o, some (t, want), nm⟩ :: r) K ⟨f, st⟩ := by
 cases m with
 | seq => simp only [Bg, EX, ht]; exact ⟨fun e => (by cases want <;> cases e), fun _ => h⟩
 | pre base => simp only [Bg, FK, ht]; exact ⟨fun e => (by cases want <;> cases e), fun _ => h⟩
theorem A4 {o : XOp} {t : Nat} {want : Bool} (ht : f t = .tup []) (h : Bg P m r K ⟨upd f d (.tup []), st⟩) : Bg P m (⟨some d, o, some (t, want), nm⟩ :: r) K ⟨f, st⟩ := by
 cases m with
 | seq => simp only [Bg, EX, ht]; exact h
 | pre base => simp only [Bg, FK, ht]; exact h
theorem TJ {t : Nat} {p : PV} (h : f t = p) : upd f t p = f := by funext i; simp only [upd]; split <;> simp_all
variable {l : List Content} {n0 k : Nat}
theorem Gq {x : XA} {cs : List PV} (hn : st.length = n0) (hk : l.length = k) {px : PV} (hx : ev ⟨f, st ++ l⟩ x = px) (hc : px.cells = cs) (h1 : cs.all PV.one = true) (h : Bg P .seq r K ⟨upd f d (.ptr (n0 + k) 0), st ++ (l ++ [.box cs])⟩) : Bg P .seq (⟨some d, .box x, none, nm⟩ :: r) K ⟨f, st ++ l⟩ := by
 subst hx; subst hc; subst hn; subst hk
 rw [← List.append_assoc, ← List.length_append] at h
 exact ⟨h1, h⟩
theorem Cn {zero : List PV} (hn : st.length = n0) (hk : l.length = k) (h : Bg P .seq r K ⟨upd f d (.ptr (n0 + k) 0), st ++ (l ++ [.box zero])⟩) : Bg P .seq (⟨some d, .alloc zero, none, nm⟩ :: r) K ⟨f, st ++ l⟩ := by
 subst hn; subst hk
 rw [← List.append_assoc, ← List.length_append] at h
 exact h
theorem Bl {size : Nat} {x y : XA} {b off : Nat} {cells cs : List PV} (hx : ev ⟨f, st⟩ x = .ptr b off) (hb : st[b]? = some (.box cells)) {py : PV} (hy : ev ⟨f, st⟩ y = py) (hc : py.cells = cs) (hl : cs.length = size) (hl2 : off + size ≤ cells.length) (h1 : cs.all PV.one = true)
   {cells' : List PV} (hs : splice cells off cs = cells') {st' : List Content} (hst : st.set b (.box cells') = st') (h : Bg P m r K ⟨f, st'⟩) : Bg P m (⟨none, .store size x y, none, nm⟩ :: r) K ⟨f, st⟩ := by
 subst hy; subst hc; subst hs; subst hst
 cases m with
 | seq => simp only [Bg, EX, xop, hx, hb]; exact ⟨hl, hl2, h1, h⟩
 | pre base => simp only [Bg, FK, Hv, hx, hb]; exact ⟨hl, hl2, h1, h⟩
theorem AT2 {neg : Bool} {x : XA} {rows : List (List D)} (hx : A9 st (ev ⟨f, st⟩ x) = some rows) (h1 : rows = [] → Bg P .seq r K ⟨upd f d (.d (.bool (!neg))), st⟩) (h2 : Bg P .seq r K ⟨upd f d (.d (.bool neg)), st⟩) : Bg P .seq (⟨some d, .eqNil neg x, none, nm⟩ :: r) K ⟨f, st⟩ := by
 simp only [Bg, EX, xop, hx]; exact ⟨h1, h2⟩
theorem Ap4 {kt e : TypeId} (hn : st.length = n0) (hk : l.length = k) (h : Bg P .seq r K ⟨upd f d (.map (n0 + k)), st ++ (l ++ [.map kt e []])⟩) : Bg P .seq (⟨some d, .mkMap kt e, none, nm⟩ :: r) K ⟨f, st ++ l⟩ := by
 subst hn; subst hk
 rw [← List.append_assoc, ← List.length_append] at h
 exact h
theorem AO2 {kt e : TypeId} {mm x y : XA} {t : Nat} {b : ByteArray} {v : Bool} {ks : List ByteArray} (hm : ev ⟨f, st⟩ mm = .map t) (hx : ev ⟨f, st⟩ x = .d (.str b)) (hy : ev ⟨f, st⟩ y = .d (.bool v)) (ht : st[t]? = some (.map kt e ks))
   (hb : b.size ≤ 9223372036854775807) (hn : ks.length < 9223372036854775807) {st' : List Content} (hst : st.set t (.map kt e (ks ++ [b])) = st') (h : Bg P m r K ⟨f, st'⟩) : Bg P m (⟨none, .mapSet kt e mm x y, none, nm⟩ :: r) K ⟨f, st⟩ := by
 subst hst
 cases m with
 | seq => simp only [Bg, EX, xop, hm, hx, hy, ht]; exact ⟨trivial, trivial, hb, hn, h⟩
 | pre base => simp only [Bg, FK, Hv, hm, hx, hy, ht]; exact ⟨trivial, trivial, hb, hn, h⟩
theorem AM1 {e size bytes : Nat} {x y : XA} {rows ys : List (List D)} (hn : st.length = n0) (hk : l.length = k) (hy : A9 (st ++ l) (ev ⟨f, st ++ l⟩ y) = some ys) (hz : ∀ row, row ∈ ys → row.length = size) (hx : ev ⟨f, st ++ l⟩ x = .ex rows) (hzx : ∀ row, row ∈ rows → row.length = size) (hb : (rows.length + ys.length) * bytes ≤ 140737488355328)
   (h : Bg P .seq r K ⟨upd f d (.own (n0 + k) 1), st ++ (l ++ [.row e 1 (rows ++ ys)])⟩) : Bg P .seq (⟨some d, .append e size bytes x y, none, nm⟩ :: r) K ⟨f, st ++ l⟩ := by
 subst hn; subst hk
 rw [← List.append_assoc, ← List.length_append] at h
 simp only [Bg, EX, xop, hx, hy]; exact ⟨hz, hzx, hb, h⟩
theorem AX3 {e size bytes : Nat} {x y : XA} {t ver : Nat} {rows ys : List (List D)} (hy : A9 st (ev ⟨f, st⟩ y) = some ys) (hz : ∀ row, row ∈ ys → row.length = size) (hx : ev ⟨f, st⟩ x = .own t ver) (ht : st[t]? = some (.row e ver rows)) (hb : (rows.length + ys.length) * bytes ≤ 140737488355328)
   {st' : List Content} (hst : st.set t (.row e (ver + 1) (rows ++ ys)) = st') (h : Bg P m r K ⟨upd f d (.own t (ver + 1)), st'⟩) : Bg P m (⟨some d, .append e size bytes x y, none, nm⟩ :: r) K ⟨f, st⟩ := by
 subst hst
 cases m with
 | seq => simp only [Bg, EX, xop, hx, hy, ht]; exact ⟨hz, trivial, trivial, hb, h⟩
 | pre base => simp only [Bg, FK, Hv, hx, hy, ht]; exact ⟨hz, trivial, trivial, hb, h⟩
theorem AJ {g : FuncId} {args : List XA} {vs : List PV} (ha : args.map (fun a => Dw st (ev ⟨f, st⟩ a)) = vs) (h : Av P g vs st (fun v st' => Bg P .seq r K ⟨upd f d v, st'⟩)) : Bg P .seq (⟨some d, .call g args, none, nm⟩ :: r) K ⟨f, st⟩ := by
 subst ha; exact h
theorem AV7 {base : Nat} {g : FuncId} {args : List XA} {vs : List PV} {v : PV} (ha : args.map (fun a => Dw st (ev ⟨f, st⟩ a)) = vs) (h : ∀ st2, Av P g vs st2 (fun p st' => p = v ∧ st' = st2)) (hk : Bg P (.pre base) r K ⟨upd f d v, st⟩) : Bg P (.pre base) (⟨some d, .call g args, none, nm⟩ :: r) K ⟨f, st⟩ := by
 subst ha
 exact ⟨v, [], [], fun st2 _ _ => (h st2).mono fun p st' hp => .inl hp, hk⟩
theorem Aw7 {x : XA} {args : List XA} {g : FuncId} {ps qs ws vs : List PV} (hx : ev ⟨f, st⟩ x = .fn g ps qs) (ha : args.map (fun a => Dw st (ev ⟨f, st⟩ a)) = ws) (hw : ps ++ ws ++ qs = vs) (h : Av P g vs st (fun v st' => Bg P .seq r K ⟨upd f d v, st'⟩)) : Bg P .seq (⟨some d, .dyn x args, none, nm⟩ :: r) K ⟨f, st⟩ := by
 subst hw; subst ha; simp only [Bg, EX, xop, hx]; exact h
theorem e_c {s : XS} {p : PV} : ev s (.c p) = p := rfl
theorem e_t {i : Nat} {v : PV} (h : f i = v) : ev ⟨f, st⟩ (.t i) = v := h
theorem eh {v : PV} : upd f d v d = v := by simp [upd]
theorem em {i : Nat} {v p : PV} (hne : (i == d) = false) (h : f i = v) : upd f d p i = v := by
 simp only [upd, if_neg (show ¬ i = d by simpa using hne)]; exact h
variable {n : Nat} {Q : XE → XS → Prop} {s : XS}
theorem AO (h : Q .normal s) : BQ P n .skip Q s := h
theorem Af {l : List XI} (h : Bg P .seq l (Q .normal) s) : BQ P n (.region l) Q s := h
theorem DP {is : List XI} {nf n0 k : Nat} {l : List Content} (hn : st.length = n0) (hk : l.length = k) (h : Bg P (.pre (n0 + k)) is (Q .normal) ⟨f, st ++ (l ++ List.replicate nf .fresh)⟩) : BQ P n (.regionS is nf) Q ⟨f, st ++ l⟩ := by
 subst hn; subst hk
 simp only [BQ, List.append_assoc, List.length_append]
 exact h
theorem Al {a b : XC} (h : BQ P n a (FI (BQ P n b Q) Q) s) : BQ P n (.seq a b) Q s := h
theorem Dy {c : XA} {a b : XC} (hc : ev s c = .d (.bool true)) (h : BQ P n a Q s) : BQ P n (.cond c a b) Q s := by
 simp only [BQ, hc]; exact ⟨fun _ => h, fun e => by cases e⟩
theorem EZ {c : XA} {a b : XC} (hc : ev s c = .d (.bool false)) (h : BQ P n b Q s) : BQ P n (.cond c a b) Q s := by
 simp only [BQ, hc]; exact ⟨fun e => (by cases e), fun _ => h⟩
theorem AT {id : Nat} {b : XC} (h : BQ P n b (B8 id Q) s) : BQ P n (.block id b) Q s := h
theorem CG {id : Nat} (h : Q (.exit id) s) : BQ P n (.exit id) Q s := h
theorem AI (h : Q .ret s) : BQ P n .ret Q s := h
theorem Ae {K' : XS → Prop} (h : K' s) : FI K' Q .normal s := h
theorem AW {K' : XS → Prop} {id : Nat} (h : Q (.exit id) s) : FI K' Q (.exit id) s := h
theorem AA {K' : XS → Prop} (h : Q .ret s) : FI K' Q .ret s := h
theorem BB {id : Nat} (h : Q .normal s) : B8 id Q .normal s := h
theorem BH {id : Nat} (h : Q .ret s) : B8 id Q .ret s := h
theorem DF {id : Nat} (h : Q .normal s) : B8 id Q (.exit id) s := by simp only [B8, if_true]; exact h
end
theorem A7 {P : Program} {n : Nat} {res : List XRes} {R : PV → List Content → Prop} {s : XS} {ps : List PV} {v : PV} {st' : List Content} (h1 : E4 s res = some ps) (h2 : cutV n (Dw s.st (Hg ps)) = v) (h3 : KZ n s.st = st') (h : R v st') : Le P n res R .ret s := by
 subst h2; subst h3; exact ⟨ps, h1, h⟩
theorem AA2 {P : Program} {n : Nat} {res : List XRes} {R : PV → List Content → Prop} {s : XS} {ps : List PV} {v : PV} {st' : List Content} (h1 : E4 s res = some ps) (h2 : cutV n (Dw s.st (Hg ps)) = v) (h3 : KZ n s.st = st') (h : R v st') : Le P n res R .normal s := by
 subst h2; subst h3; exact ⟨ps, h1, h⟩
section
variable {K : D → Prop} {k : IntKind} {a b : Int}
theorem BU (h : K (.int k (k.wrap (a + b)))) : EK .add K (.int k a) (.int k b) := ⟨rfl, h⟩
theorem Aw0 (h : K (.int k (k.wrap (a - b)))) : EK .sub K (.int k a) (.int k b) := ⟨rfl, h⟩
theorem AY1 (h0 : b ≠ 0) (h : K (.int k (a.tmod b))) : EK .rem K (.int k a) (.int k b) := ⟨rfl, h0, h⟩
theorem AZ0 {k' : IntKind} (h0 : 0 ≤ b) (h : K (.int k (a.fdiv (2 ^ (min b.toNat k.bits))))) : EK .shr K (.int k a) (.int k' b) := ⟨h0, h⟩
theorem BK (h : K (.bool (decide (a = b)))) : EK .eql K (.int k a) (.int k b) := by
 have e : (a == b) = decide (a = b) := by rw [Bool.eq_iff_iff]; simp
 exact ⟨rfl, by rw [e]; exact h⟩
theorem CM (h : K (.bool (decide (a < b)))) : EK .lss K (.int k a) (.int k b) := ⟨rfl, h⟩
theorem JI (h : K (.bool (decide (a ≤ b)))) : EK .leq K (.int k a) (.int k b) := ⟨rfl, h⟩
theorem toList_eq (x y : ByteArray) : (x.toList == y.toList) = decide (x = y) := by
 have h : ∀ x : ByteArray, x.toList = x.data.toList := fun x => ByteArray.toList_eq x
 rw [Bool.eq_iff_iff, beq_iff_eq, decide_eq_true_iff, h, h]
 constructor
 · intro e
   have : x.data = y.data := by apply Array.ext'; exact e
   cases x; cases y; simp_all
 · intro e; rw [e]
variable {x y : ByteArray}
theorem Dg (h : K (.bool (decide (x = y)))) : EK .eql K (.str x) (.str y) := by
 show K (.bool (x.toList == y.toList)); rw [toList_eq]; exact h
end
section
variable {s : XS} {K : Int → Prop} {k : IntKind} {n i : Int} {a : XA} {r : List XA}
theorem RD {mx : Bool} (h : K n) : mmD mx s n [] K k := h
theorem ZM {y : Int} (ha : ev s a = .d (.int k y)) (h : mmD true s (max n y) r K k) : mmD true s n (a :: r) K k := by
 simp only [mmD, ha, if_true]; exact ⟨trivial, h⟩
theorem AG3 {y : Int} (ha : ev s a = .d (.int k y)) (h : mmD false s (min n y) r K k) : mmD false s n (a :: r) K k := by
 simp only [mmD, ha, Bool.false_eq_true, if_false]; exact ⟨trivial, h⟩
theorem AS3 {dflt : Int} {k' : IntKind} (ha : ev s a = .d (.int k' i)) (h : K i) : bnd s dflt K (some a) := by
 simp only [bnd, ha]; exact h
end
section
variable {f : Nat → PV} {st : List Content} {t : Nat} {rs : List XRes} {ps : List PV}
theorem AH : E4 ⟨f, st⟩ [] = some [] := rfl
theorem AG {v : PV} (h : f t = v) (hr : E4 ⟨f, st⟩ rs = some ps) : E4 ⟨f, st⟩ (.tmp t :: rs) = some (v :: ps) := by
 simp only [E4, S5, h, hr]
theorem G9 {b off size : Nat} {cells cs : List PV} (h : f t = .ptr b off) (hb : st[b]? = some (.box cells)) (hl : off + size ≤ cells.length) (hc : (cells.drop off).take size = cs) (hr : E4 ⟨f, st⟩ rs = some ps) : E4 ⟨f, st⟩ (.cell t true size :: rs) = some (.agg cs :: ps) := by
 subst hc; simp only [E4, S5, h, hb, hr, if_true, hl]
end
section
variable {s : XS} {st : List Content} {a : XA} {p q : PV} {l : List XA} {ps vs qs : List PV}
theorem AM : [].map (fun a => Dw st (ev s a)) = [] := rfl
theorem Ar (h : ev s a = p) (hq : Dw st p = q) (hr : l.map (fun a => Dw st (ev s a)) = ps) : (a :: l).map (fun a => Dw st (ev s a)) = q :: ps := by subst h; subst hq; subst hr; rfl
theorem AP {rows : List (List D)} (h : ev s a = p) (hr : A9 st p = some rows) : A9 st (ev s a) = some rows := by rw [h]; exact hr
theorem IS {t e ver : Nat} {rows : List (List D)} (h : st[t]? = some (.row e ver rows)) : A9 st (.own t ver) = some rows := by simp [A9, h]
end
section
variable {st : List Content} {p q : PV} {ps qs : List PV} {x : D} {n off : Nat} {g : FuncId} {rows : List (List D)}
theorem AF : Dw st (.d x) = .d x := rfl
theorem O5 : Dw st (.ptr n off) = .ptr n off := rfl
theorem K7 : Dw st (.fn g ps qs) = .fn g ps qs := rfl
theorem AC7 : Dw st (.map n) = .map n := rfl
theorem K0 : Dw st (.ex rows) = .d (.sl rows) := rfl
theorem Z7 {t e ver : Nat} (h : st[t]? = some (.row e ver rows)) : Dw st (.own t ver) = .d (.sl rows) := by simp [Dw, frz, h]
theorem Bx (h : ps.map (frz st) = qs) : Dw st (.agg ps) = .agg qs := by subst h; rfl
theorem B3 : [].map (frz st) = [] := rfl
theorem Aq (h : frz st p = q) (hr : ps.map (frz st) = qs) : (p :: ps).map (frz st) = q :: qs := by subst h; subst hr; rfl
theorem f_d : frz st (.d x) = .d x := rfl
theorem VA : frz st (.ex rows) = .d (.sl rows) := rfl
theorem Qa : frz st (.map n) = .map n := rfl
theorem LL {t e ver : Nat} (h : st[t]? = some (.row e ver rows)) : frz st (.own t ver) = .d (.sl rows) := by simp [frz, h]
theorem v_d : cutV n (.d x) = .d x := rfl
theorem XW (h : AK.belowL n ps = true) : cutV n (.agg ps) = .agg ps := by simp only [cutV, AK, h, if_true]
theorem AY3 (h : AK.belowL n ps = true) : cutV n (.tup ps) = .tup ps := by simp only [cutV, AK, h, if_true]
theorem AN (h : Dw st p = q) {v : PV} (hv : cutV n q = v) : cutV n (Dw st (Hg [p])) = v := by subst h; exact hv
theorem AM8 : cutV n (Dw st (Hg [])) = .tup [] := rfl
end
section
variable {x : D} {ps : List PV} {n off : Nat}
theorem A0 : (PV.d x).cells = [.d x] := rfl
theorem Bf : (PV.agg ps).cells = ps := rfl
theorem Bt {st : List Content} {rows : List (List D)} : A9 st (.d (.sl rows)) = some rows := rfl
theorem K1 {st : List Content} {rows : List (List D)} : A9 st (.ex rows) = some rows := rfl
end
section
variable {P : Program} {m : Mode} {r : List XI} {K : XS → Prop} {f : Nat → PV} {st : List Content} {d nm : Nat} {n : Nat} {Q : XE → XS → Prop} {s : XS}
end
section
variable {s : XS} {st : List Content} {f : Nat → PV} {a : XA} {p q : PV} {qs : List PV} {l : List XA} {x : D} {ds : List D} {rows : List (List D)} {n : Nat}
theorem AL : G3 st [] = some [] := rfl
theorem Aw (h : frz st q = .d x) (hr : G3 st qs = some ds) : G3 st (q :: qs) = some (x :: ds) := by simp only [G3, toD, h, hr]
theorem Eg : CR s n [] = some [] := rfl
theorem AE (h : ev ⟨f, st⟩ a = p) (hc : p.cells = qs) (hd : G3 st qs = some ds) (hl : (ds.length == n) = true) (hr : CR ⟨f, st⟩ n l = some rows) : CR ⟨f, st⟩ n (a :: l) = some (ds :: rows) := by
 have e : ds.length = n := by simpa using hl
 simp only [CR, h, hc, hd, hr, e, if_true]
end
end Go.Ax
