import Derived.Test.YtojkpenjeglipaaGreatTAxVd
set_option linter.unusedVariables false
namespace Go.Ax
open Go.RowKit
inductive XA where
 | t (i : Nat)
 | c (p : PV)
inductive XOp where
 | move (x : XA)
 | pick (c a b : XA)
 | box (x : XA)
 | alloc (zero : List PV)
 | build (zero : List PV) (parts : List (Nat × Nat × XA))
 | buildSlice (size : Nat) (parts : List XA)
 | load (agg : Bool) (size : Nat) (x : XA)
 | store (size : Nat) (x y : XA)
 | nilCheck (x : XA)
 | bin (op : BinOp) (x y : XA)
 | eqBool (neg : Bool) (x y : XA)
 | eqNil (neg : Bool) (x : XA)
 | not (x : XA)
 | neg (x : XA)
 | toInt (k : IntKind) (x : XA)
 | toStr (x : XA)
 | fieldAddr (off : Nat) (x : XA)
 | field (agg : Bool) (off size : Nat) (x : XA)
 | indexAddr (size : Nat) (x i : XA)
 | indexStr (x i : XA)
 | sliceS (x : XA) (lo hi : Option XA)
 | sliceR (size : Nat) (x : XA) (lo hi mx : Option XA)
 | lenS (x : XA)
 | lenR (x : XA)
 | minmax (mx : Bool) (x : XA) (xs : List XA)
 | append (e size bytes : Nat) (x y : XA)
 | toBytes (x : XA)
 | mkMap (k e : TypeId)
 | mapSet (k e : TypeId) (m x y : XA)
 | extract (x : XA) (i : Nat)
 | mkfn (f : FuncId) (first caps : List XA)
 | call (f : FuncId) (args : List XA)
 | dyn (f : XA) (args : List XA)
 | bad
structure XI where
 dst : Option Nat
 op : XOp
 guard : Option (Nat × Bool) := none
 nm : Nat := 0
inductive XC where
 | skip
 | region (ops : List XI)
 | regionD (ops : List XI) (anc : List (List Nat)) (nf : Nat)
 | regionS (ops : List XI) (nf : Nat)
 | seq (a b : XC)
 | cond (c : XA) (a b : XC)
 | block (id : Nat) (b : XC)
 | loop (b : XC)
 | exit (id : Nat)
 | ret
 | bad
def cPV : Value → Option PV
 | .bool b => some (.d (.bool b))
 | .int k n => some (.d (.int k n))
 | .string s => some (.d (.str s))
 | .slice none 0 0 => some (.ex [])
 | .pointer none => some .nilp
 | .map none => some .nilm
 | .nilFunc => some .nilf
 | _ => none
def Bq0 : List Value → Option (List PV)
 | [] => some []
 | v :: vs => match cPV v, Bq0 vs with | some p, some ps => some (p :: ps) | _, _ => none
def Al4 (v : Value) : Option (List PV) := Bq0 v.cells.toList
def cA (n : Nat) : Operand → Option XA
 | .tmp t => if t < n then some (.t t) else none
 | .const v => (cPV v).map .c
 | .func f => some (.c (.fn f [] []))
 | .global _ => none
def cAs (n : Nat) : List Operand → Option (List XA)
 | [] => some []
 | x :: xs => match cA n x, cAs n xs with | some p, some ps => some (p :: ps) | _, _ => none
def cAo (n : Nat) : Option Operand → Option (Option XA)
 | none => some none
 | some x => (cA n x).map some
def Uh (P : Program) : List Field → Option (List (Nat × Nat))
 | [] => some []
 | f :: r => match P.info? f.type, Uh P r with | some i, some ps => some ((f.offset, i.size) :: ps) | _, _ => none
def Aj8 (n : Nat) (places : List (Nat × Nat)) : List (Nat × Operand) → Option (List (Nat × Nat × XA))
 | [] => some []
 | (i, x) :: r => match places[i]?, cA n x, Aj8 n places r with
   | some q, some a, some ps => some ((q.1, q.2, a) :: ps)
   | _, _, _ => none
def ON (n : Nat) : Nat → List (Nat × Operand) → Option (List XA)
 | _, [] => some []
 | k, (i, x) :: r => if i = k then (match cA n x, ON n (k + 1) r with | some a, some ps => some (a :: ps) | _, _ => none) else none
def Oj (P : Program) (t : TypeId) : Option Bool := match P.underlying t with | some (.struct _) | some (.array _ _) => some true | some _ => some false | none => none
def GK (P : Program) (n : Nat) (o : Oper) : Option XOp :=
 match o.op with
 | .move x | .assign x => (cA n x).map .move
 | .pick c a b => match cA n c, cA n a, cA n b with | some c, some a, some b => some (.pick c a b) | _, _, _ => none
 | .box _ x => (cA n x).map .box
 | .alloc e => match P.info? e with
   | some i => match i.zero with | some z => (Al4 z).map .alloc | none => none
   | none => none
 | .build t parts => match P.info? t, P.underlying t with
   | some i, some (.struct fields) => match i.zero with
     | some z => match Al4 z, Uh P fields.toList with
       | some zs, some places => (Aj8 n places parts.toList).map (.build zs)
       | _, _ => none
     | none => none
   | _, _ => none
 | .buildSlice t len parts => match P.underlying t with
   | some (.slice e) => match P.info? e with
     | some i => match i.zero with
       | some z => match ON n 0 parts.toList with
         | some ps => if ps.length = len ∧ 0 < i.size ∧ z.cells.size = i.size ∧ len * i.size ≤ 2 ^ 24 then some (.buildSlice i.size ps) else none
         | none => none
       | none => none
     | none => none
   | _ => none
 | .load t x => match P.info? t, Oj P t, cA n x with
   | some i, some b, some a => if b = true ∨ i.size = 1 then some (.load b i.size a) else none
   | _, _, _ => none
 | .store t x y => match P.info? t, cA n x, cA n y with | some i, some a, some b => some (.store i.size a b) | _, _, _ => none
 | .nilCheck x => (cA n x).map .nilCheck
 | .binOp op t x y _ => match P.underlying t, cA n x, cA n y with
   | some (.int _), some a, some b => some (.bin op a b)
   | some .string, some a, some b => some (.bin op a b)
   | some .bool, some a, some b => (match op with | .eql => some (.eqBool false a b) | .neq => some (.eqBool true a b) | _ => none)
   | some (.slice _), some a, some (.c (.ex [])) => (match op with | .eql => some (.eqNil false a) | .neq => some (.eqNil true a) | _ => none)
   | _, _, _ => none
 | .unOp op _ x => match op, cA n x with
   | .not, some a => some (.not a)
   | .neg, some a => some (.neg a)
   | _, _ => none
 | .convert s d x => match P.underlying s, P.underlying d, cA n x with
   | some (.int _), some (.int k), some a => some (.toInt k a)
   | some .string, some .string, some a => some (.toStr a)
   | some .string, some (.slice e), some a => (match P.underlying e with | some (.int .u8) => some (.toBytes a) | _ => none)
   | _, _, _ => none
 | .makeMap t none => match P.underlying t with
   | some (.map k e) => (match P.underlying k, P.underlying e with | some .string, some .bool => some (.mkMap k e) | _, _ => none)
   | _ => none
 | .mapUpdate t m x y => match P.underlying t with
   | some (.map k e) => (match P.underlying k, P.underlying e, cA n m, cA n x, cA n y with | some .string, some .bool, some a, some b, some c => some (.mapSet k e a b c) | _, _, _, _, _ => none)
   | _ => none
 | .fieldAddr t x f => match P.underlying t, cA n x with
   | some (.struct fields), some a => match fields[f]? with
     | some fl => match P.info? fl.type with | some i => if 0 < i.size then some (.fieldAddr fl.offset a) else none | none => none
     | none => none
   | _, _ => none
 | .field t x f => match P.underlying t, cA n x with
   | some (.struct fields), some a => match fields[f]? with
     | some fl => match P.info? fl.type, Oj P fl.type with | some i, some b => if b = true ∨ i.size = 1 then some (.field b fl.offset i.size a) else none | _, _ => none
     | none => none
   | _, _ => none
 | .indexAddr t x i => match P.underlying t, cA n x, cA n i with
   | some (.slice e), some a, some b => match P.info? e with | some j => if 0 < j.size then some (.indexAddr j.size a b) else none | none => none
   | _, _, _ => none
 | .index t x i => match P.underlying t, cA n x, cA n i with
   | some .string, some a, some b => some (.indexStr a b)
   | _, _, _ => none
 | .slice t x lo hi mx => match P.underlying t, cA n x, cAo n lo, cAo n hi, cAo n mx with
   | some .string, some a, some l, some h, some none => some (.sliceS a l h)
   | some (.slice e), some a, some l, some h, some m => match P.info? e with | some j => if 0 < j.size then some (.sliceR j.size a l h m) else none | none => none
   | _, _, _, _, _ => none
 | .extract x i => (cA n x).map (.extract · i)
 | .makeFunc (.func f) first caps => match cAs n first.toList, cAs n caps.toList with | some a, some b => some (.mkfn f a b) | _, _ => none
 | .call c => match c.callee with
   | .value (.func f) => (cAs n c.args.toList).map (.call f)
   | .value x => match cA n x, cAs n c.args.toList with | some a, some xs => some (.dyn a xs) | _, _ => none
   | .builtin .len => match c.args.toList, c.argTypes.toList with
     | [x], t :: _ => match P.underlying t, cA n x with
       | some .string, some a => some (.lenS a)
       | some (.slice _), some a => some (.lenR a)
       | _, _ => none
     | _, _ => none
   | .builtin .min => match cAs n c.args.toList with | some (a :: as) => some (.minmax false a as) | _ => none
   | .builtin .max => match cAs n c.args.toList with | some (a :: as) => some (.minmax true a as) | _ => none
   | .builtin .append => match c.args.toList, c.argTypes.toList with
     | [x, y], [t, u] => match P.underlying t, cA n x, cA n y with
       | some (.slice e), some a, some b => match P.info? e with
         | some i => match i.zero with
           | some z => if t = u ∧ z.cells.size = i.size ∧ 0 < i.size ∧ 0 < i.bytes then some (.append e i.size i.bytes a b) else none
           | none => none
         | none => none
       | _, _, _ => none
     | _, _ => none
   | _ => none
 | _ => none
def cOp (P : Program) (n : Nat) (o : Oper) : Option XOp := match GK P n o with | some x => some x | none => some .bad
theorem AE2 {P : Program} {n : Nat} {o : Oper} {x : XOp} (h : cOp P n o = some x) (hx : x ≠ .bad) : GK P n o = some x := by
 unfold cOp at h
 split at h
 · rename_i e; rw [e, h]
 · cases h; exact absurd rfl hx
def BW3 (n : Nat) : Option Nat → Bool
 | some d => decide (d < n)
 | none => true
def cI (P : Program) (n : Nat) (ops : Array Oper) (o : Oper) : Option XI :=
 match cOp P n o with
 | none => none
 | some x =>
   if BW3 n o.dst = true then
     match o.guard with
     | none => some { dst := o.dst, op := x }
     | some (j, want) => match (ops[j]?).bind (·.dst) with
       | some t => if t < n then some { dst := o.dst, op := x, guard := some (t, want) } else none
       | none => none
   else none
def cIs (P : Program) (n : Nat) (ops : Array Oper) : List Oper → Option (List XI)
 | [] => some []
 | o :: r => match cI P n ops o, cIs P n ops r with | some i, some is => some (i :: is) | _, _ => none
def FE : XA → List Nat
 | .t i => [i]
 | .c _ => []
def WD : Option XA → List Nat
 | none => []
 | some x => FE x
def DB : List XA → List Nat
 | [] => []
 | x :: r => FE x ++ DB r
def Al1 : List (Nat × Nat × XA) → List Nat
 | [] => []
 | (_, _, x) :: r => FE x ++ Al1 r
def ments : XOp → List Nat
 | .move x | .box x | .toBytes x | .load _ _ x | .nilCheck x | .eqNil _ x | .not x | .neg x | .toInt _ x | .toStr x | .fieldAddr _ x | .field _ _ _ x | .lenS x | .lenR x | .extract x _ => FE x
 | .pick c a b => FE c ++ FE a ++ FE b
 | .alloc _ | .mkMap _ _ | .bad => []
 | .mapSet _ _ m x y => FE m ++ FE x ++ FE y
 | .build _ ps => Al1 ps
 | .buildSlice _ ps => DB ps
 | .store _ x y | .bin _ x y | .eqBool _ x y | .indexAddr _ x y | .indexStr x y | .append _ _ _ x y => FE x ++ FE y
 | .sliceS x lo hi => FE x ++ WD lo ++ WD hi
 | .sliceR _ x lo hi mx => FE x ++ WD lo ++ WD hi ++ WD mx
 | .minmax _ x xs => FE x ++ DB xs
 | .mkfn _ a b => DB a ++ DB b
 | .call _ xs => DB xs
 | .dyn x xs => FE x ++ DB xs
def XI.ments (i : XI) : List Nat := Ax.ments i.op ++ (match i.guard with | some (t, _) => [t] | none => [])
def BP (anc : List (List Nat)) (k : Nat) : List Nat := anc.getD k []
def Q7 (o : Oper) : List Nat := o.after.toList.filterMap fun e => if Region.binds .any e then some e.on else none
def Bz4 (anc : List (List Nat)) : List Oper → List (List Nat)
 | [] => anc
 | o :: r => Bz4 (anc ++ [((Q7 o).flatMap fun e => e :: BP anc e).eraseDups]) r
def Bw7 (ops : List Oper) (is : List XI) (anc : List (List Nat)) : Bool :=
 (ops.length == is.length) &&
 ((List.range ops.length).all fun k => match ops[k]? with
   | some o => (Q7 o).all (fun e => decide (e < k)) && (BP anc k).all fun j => (Q7 o).any fun e => j == e || (BP anc e).contains j
   | none => false) &&
 ((List.range is.length).all fun i => (List.range is.length).all fun j => i == j || (match is[i]?, is[j]? with
   | some x, some y => (match y.dst with
     | some t => x.dst != some t && (!(x.ments.contains t) || (if j < i then (BP anc i).contains j else (BP anc j).contains i))
     | none => true)
   | _, _ => false))
def R9 : XOp → Bool
 | .box _ | .alloc _ | .append .. | .mkMap .. | .call .. | .dyn .. => true
 | _ => false
def CZ : XOp → Nat
 | .load .. | .buildSlice .. | .indexAddr .. | .sliceR .. | .lenR _ => 1
 | .box _ | .alloc _ | .append .. | .store .. | .call .. | .dyn .. | .mkMap .. | .mapSet .. | .eqNil .. => 2
 | _ => 0
def AP2 (is : List XI) (i : Nat) : Nat := match is[i]? with | some x => CZ x.op | none => 0
def BV0 (a b : Nat) : Bool := (a != 2 || b == 0) && (b != 2 || a == 0)
def BH1 (is : List XI) (anc : List (List Nat)) : Bool :=
 (List.range is.length).all fun j => (List.range j).all fun i => (BP anc j).contains i || BV0 (AP2 is i) (AP2 is j)
def SI : Nat → List XI → List XI
 | _, [] => []
 | k, i :: r => if R9 i.op then { i with nm := k } :: SI (k + 1) r else i :: SI k r
def cC (P : Program) (n : Nat) : Code → Option XC
 | .skip => some .skip
 | .label _ => some .skip
 | .region _ ops false => match cIs P n ops ops.toList with | some is => some (.region is) | none => some .bad
 | .region _ ops true => match cIs P n ops ops.toList with
   | some is => if Bw7 ops.toList (SI 0 is) (Bz4 [] ops.toList) = true ∧ P.follows .mixedOrders = true then some (if BH1 (SI 0 is) (Bz4 [] ops.toList) = true then .regionS (SI 0 is) ((is.filter fun i => R9 i.op).length) else .regionD (SI 0 is) (Bz4 [] ops.toList) ((is.filter fun i => R9 i.op).length)) else some .bad
   | none => some .bad
 | .seq a b => match cC P n a, cC P n b with | some x, some y => some (.seq x y) | _, _ => none
 | .cond c a b => match cA n c, cC P n a, cC P n b with | some c, some x, some y => some (.cond c x y) | _, _, _ => some .bad
 | .block id b => (cC P n b).map (.block id)
 | .loop b => (cC P n b).map .loop
 | .exit id => some (.exit id)
 | .ret => some .ret
 | _ => some .bad
def ev (s : XS) : XA → PV
 | .t i => s.r i
 | .c p => p
def upd (r : Nat → PV) (d : Nat) (v : PV) : Nat → PV := fun i => if i = d then v else r i
def XS.put (s : XS) (dst : Option Nat) (v : PV) (st : List Content) : XS :=
 match dst with
 | some d => ⟨upd s.r d v, st⟩
 | none => ⟨s.r, st⟩
def Aw (P : Program) (f : FuncId) (args : List PV) (st : List Content) (R : PV → List Content → Prop) : Prop :=
 (∀ vs w, (callFunc f vs).run P w = .ok (.enter f vs) w) ∧
 ∀ B w0 M g w vs, SRel P B w0 M g st w → CK M g vs args →
   Calls P f vs.toArray w fun e w' => ∃ v p st' M' g', e = .returned v ∧ MLe M M' ∧ NLe st.length g g' ∧ st.length ≤ st'.length ∧ SRel P B w0 M' g' st' w' ∧ RepV M' g' v p ∧ R p st'
theorem Aw.mono {P : Program} {f : FuncId} {args : List PV} {st : List Content} {R R' : PV → List Content → Prop} (h : Aw P f args st R) (hr : ∀ p st', R p st' → R' p st') : Aw P f args st R' :=
 ⟨h.1, fun B w0 M g w vs h1 h2 => (h.2 B w0 M g w vs h1 h2).mono fun e w' ⟨v, p, st', M', g', a1, a2, a3, a4, a5, a6, a7⟩ => ⟨v, p, st', M', g', a1, a2, a3, a4, a5, a6, hr _ _ a7⟩⟩
def EO (op : BinOp) (K : D → Prop) : D → D → Prop
 | .int k a, .int k' b =>
   match op with
   | .add => k = k' ∧ K (.int k (k.wrap (a + b)))
   | .sub => k = k' ∧ K (.int k (k.wrap (a - b)))
   | .mul => k = k' ∧ K (.int k (k.wrap (a * b)))
   | .quo => k = k' ∧ b ≠ 0 ∧ K (.int k (k.wrap (a.tdiv b)))
   | .rem => k = k' ∧ b ≠ 0 ∧ K (.int k (a.tmod b))
   | .and => k = k' ∧ K (.int k (k.wrap (BitVec.ofInt k.bits a &&& BitVec.ofInt k.bits b).toNat))
   | .or => k = k' ∧ K (.int k (k.wrap (BitVec.ofInt k.bits a ||| BitVec.ofInt k.bits b).toNat))
   | .xor => k = k' ∧ K (.int k (k.wrap (BitVec.ofInt k.bits a ^^^ BitVec.ofInt k.bits b).toNat))
   | .andNot => k = k' ∧ K (.int k (k.wrap (BitVec.ofInt k.bits a &&& ~~~ BitVec.ofInt k.bits b).toNat))
   | .shl => 0 ≤ b ∧ K (.int k (k.wrap (a * 2 ^ (min b.toNat k.bits))))
   | .shr => 0 ≤ b ∧ K (.int k (a.fdiv (2 ^ (min b.toNat k.bits))))
   | .eql => k = k' ∧ K (.bool (a == b))
   | .neq => k = k' ∧ K (.bool (a != b))
   | .lss => k = k' ∧ K (.bool (decide (a < b)))
   | .leq => k = k' ∧ K (.bool (decide (a ≤ b)))
   | .gtr => k = k' ∧ K (.bool (decide (a > b)))
   | .geq => k = k' ∧ K (.bool (decide (a ≥ b)))
 | .str a, .str b =>
   match op with
   | .add => ((a.size + b.size : Nat) : Int) ≤ 9223372036854775807 ∧ K (.str (a ++ b))
   | .eql => K (.bool (a.toList == b.toList))
   | .neq => K (.bool (!(a.toList == b.toList)))
   | .lss => K (.bool (Op.bytesLess a.toList b.toList))
   | .leq => K (.bool (Op.bytesLess a.toList b.toList || a.toList == b.toList))
   | .gtr => K (.bool (!(Op.bytesLess a.toList b.toList || a.toList == b.toList)))
   | .geq => K (.bool (!Op.bytesLess a.toList b.toList))
   | _ => False
 | _, _ => False
def Gk (s : XS) : List PV → List (Nat × Nat × XA) → List PV
 | acc, [] => acc
 | acc, (off, size, a) :: r => Gk s (splice acc off (ev s a).cells) r
def DU (s : XS) (n : Nat) : List (Nat × Nat × XA) → Prop
 | [] => True
 | (off, size, a) :: r => (ev s a).cells.length = size ∧ off + size ≤ n ∧ ((ev s a).cells.all PV.one) = true ∧ DU s n r
def toD (st : List Content) (p : PV) : Option D := match frz st p with | .d x => some x | _ => none
def Ie (st : List Content) : List PV → Option (List D)
 | [] => some []
 | p :: ps => match toD st p, Ie st ps with | some x, some xs => some (x :: xs) | _, _ => none
def C2 (s : XS) (size : Nat) : List XA → Option (List (List D))
 | [] => some []
 | a :: r => match Ie s.st (ev s a).cells, C2 s size r with | some row, some rows => if row.length = size then some (row :: rows) else none | _, _ => none
def FL (b : ByteArray) : List (List D) := b.data.toList.map (fun u => [.int .u8 u.toNat])
def YD (b : ByteArray) (i : Nat) : Int := ((b.data[i]?).map (fun x => (x.toNat : Int))).getD 0
def bnd (s : XS) (dflt : Int) (K : Int → Prop) : Option XA → Prop
 | none => K dflt
 | some a => match ev s a with | .d (.int _ i) => K i | _ => False
def mmD (mx : Bool) (s : XS) : Int → List XA → (Int → Prop) → IntKind → Prop
 | x, [], K, k => K x
 | x, a :: r, K, k => match ev s a with
   | .d (.int k' y) => k' = k ∧ mmD mx s (if mx then max x y else min x y) r K k
   | _ => False
def xop (P : Program) (o : XOp) (K : PV → List Content → Prop) (s : XS) : Prop :=
 match o with
 | .move x => K (ev s x) s.st
 | .pick c a b => match ev s c, ev s a, ev s b with
   | .d (.bool t), .d (.bool x), .d (.bool y) => K (.d (.bool (bif t then x else y))) s.st
   | .d (.bool t), p, q => (t = true → K p s.st) ∧ (t = false → K q s.st)
   | _, _, _ => False
 | .box x => ((ev s x).cells.all PV.one) = true ∧ K (.ptr s.st.length 0) (s.st ++ [.box (ev s x).cells])
 | .alloc zero => K (.ptr s.st.length 0) (s.st ++ [.box zero])
 | .build zero parts => DU s zero.length parts ∧ K (.agg (Gk s zero parts)) s.st
 | .buildSlice size parts => match C2 s size parts with | some rows => K (.ex rows) s.st | none => False
 | .load agg size x => match ev s x with
   | .ptr b off => match s.st[b]? with
     | some (.box cells) => if agg then off + size ≤ cells.length ∧ K (.agg ((cells.drop off).take size)) s.st else (match cells[off]? with | some p => K p s.st | none => False)
     | _ => False
   | .dp cells => if agg then size ≤ cells.length ∧ K (.agg ((cells.take size).map .d)) s.st else (match cells[0]? with | some x => K (.d x) s.st | none => False)
   | _ => False
 | .store size x y => match ev s x with
   | .ptr b off => match s.st[b]? with
     | some (.box cells) => (ev s y).cells.length = size ∧ off + size ≤ cells.length ∧ ((ev s y).cells.all PV.one) = true ∧ K (.tup []) (s.st.set b (.box (splice cells off (ev s y).cells)))
     | _ => False
   | _ => False
 | .nilCheck x => match ev s x with
   | .ptr b off => K (.ptr b off) s.st
   | .dp cells => K (.dp cells) s.st
   | .fn f ps qs => K (.fn f ps qs) s.st
   | _ => False
 | .bin op x y => match ev s x, ev s y with
   | .d a, .d b => EO op (fun r => K (.d r) s.st) a b
   | _, _ => False
 | .eqBool neg x y => match ev s x, ev s y with
   | .d (.bool a), .d (.bool b) => K (.d (.bool (if neg then !(a == b) else a == b))) s.st
   | _, _ => False
 | .eqNil neg x => match A4 s.st (ev s x) with
   | some rows => (rows = [] → K (.d (.bool (!neg))) s.st) ∧ K (.d (.bool neg)) s.st
   | none => False
 | .toBytes x => match ev s x with
   | .d (.str b) => K (.d (.sl (FL b))) s.st
   | _ => False
 | .mkMap k e => K (.map s.st.length) (s.st ++ [.map k e []])
 | .mapSet k e m x y => match ev s m, ev s x, ev s y with
   | .map t, .d (.str b), .d (.bool v) => match s.st[t]? with
     | some (.map k' e' ks) => k' = k ∧ e' = e ∧ b.size ≤ 9223372036854775807 ∧ ks.length < 9223372036854775807 ∧ K (.tup []) (s.st.set t (.map k e (ks ++ [b])))
     | _ => False
   | _, _, _ => False
 | .not x => match ev s x with
   | .d (.bool b) => K (.d (.bool (!b))) s.st
   | _ => False
 | .neg x => match ev s x with
   | .d (.int k n) => K (.d (.int k (k.wrap (0 - n)))) s.st
   | _ => False
 | .toInt k x => match ev s x with
   | .d (.int _ n) => K (.d (.int k (k.wrap n))) s.st
   | _ => False
 | .toStr x => match ev s x with
   | .d (.str b) => K (.d (.str b)) s.st
   | _ => False
 | .fieldAddr off x => match ev s x with
   | .ptr b o => K (.ptr b (o + off)) s.st
   | .dp cells => K (.dp (cells.drop off)) s.st
   | _ => False
 | .field agg off size x => match ev s x with
   | .agg cells => if agg then off + size ≤ cells.length ∧ K (.agg ((cells.drop off).take size)) s.st else (match cells[off]? with | some p => K p s.st | none => False)
   | _ => False
 | .indexAddr size x i => match A4 s.st (ev s x), ev s i with
   | some rows, .d (.int _ n) => 0 ≤ n ∧ n < rows.length ∧ (∀ row, rows[n.toNat]? = some row → row.length = size ∧ K (.dp row) s.st)
   | _, _ => False
 | .indexStr x i => match ev s x, ev s i with
   | .d (.str b), .d (.int _ n) => 0 ≤ n ∧ n < b.size ∧ K (.d (.int .u8 (YD b n.toNat))) s.st
   | _, _ => False
 | .sliceS x lo hi => match ev s x with
   | .d (.str b) => bnd s 0 (fun l => bnd s b.size (fun h => 0 ≤ l ∧ l ≤ h ∧ h ≤ b.size ∧ K (.d (.str (b.extract l.toNat h.toNat))) s.st) hi) lo
   | _ => False
 | .sliceR size x lo hi mx => match A4 s.st (ev s x), mx with
   | some rows, none => (∀ row, row ∈ rows → row.length = size) ∧ bnd s 0 (fun l => bnd s rows.length (fun h => 0 ≤ l ∧ l ≤ h ∧ h ≤ rows.length ∧ K (.d (.sl ((rows.take h.toNat).drop l.toNat))) s.st) hi) lo
   | some rows, some m => (∀ row, row ∈ rows → row.length = size) ∧ bnd s 0 (fun l => bnd s (-1) (fun h => bnd s 0 (fun m => 0 ≤ l ∧ l ≤ h ∧ m = h ∧ h ≤ rows.length ∧ K (.ex ((rows.take h.toNat).drop l.toNat)) s.st) (some m)) hi) lo
   | none, _ => False
 | .lenS x => match ev s x with
   | .d (.str b) => K (.d (.int .i64 b.size)) s.st
   | _ => False
 | .lenR x => match A4 s.st (ev s x) with
   | some rows => K (.d (.int .i64 rows.length)) s.st
   | none => False
 | .minmax mx x xs => match ev s x with
   | .d (.int k a) => mmD mx s a xs (fun r => K (.d (.int k r)) s.st) k
   | _ => False
 | .append e size bytes x y => match A4 s.st (ev s y) with
   | some ys => (∀ row, row ∈ ys → row.length = size) ∧ (match ev s x with
     | .ex rows => (∀ row, row ∈ rows → row.length = size) ∧ (rows.length + ys.length) * bytes ≤ 140737488355328 ∧ K (.own s.st.length 1) (s.st ++ [.row e 1 (rows ++ ys)])
     | .own t ver => match s.st[t]? with
       | some (.row e' ver' rows) => e' = e ∧ ver' = ver ∧ (rows.length + ys.length) * bytes ≤ 140737488355328 ∧ K (.own t (ver + 1)) (s.st.set t (.row e (ver + 1) (rows ++ ys)))
       | _ => False
     | _ => False)
   | none => False
 | .extract x i => match ev s x with
   | .tup vs => match vs[i]? with | some p => K p s.st | none => False
   | _ => False
 | .mkfn f first caps => K (.fn f (first.map (ev s)) (caps.map (ev s))) s.st
 | .call f args => Aw P f (args.map (fun a => Dh s.st (ev s a))) s.st K
 | .dyn x args => match ev s x with
   | .fn f ps qs => Aw P f (ps ++ args.map (fun a => Dh s.st (ev s a)) ++ qs) s.st K
   | _ => False
 | .bad => False
def FA (P : Program) : List XI → (XS → Prop) → XS → Prop
 | [], K, s => K s
 | i :: r, K, s => match i.guard with
   | none => xop P i.op (fun v st => FA P r K (s.put i.dst v st)) s
   | some (t, want) => match s.r t with
     | .d (.bool b) => (b = want → xop P i.op (fun v st => FA P r K (s.put i.dst v st)) s) ∧ (b = !want → FA P r K (s.put i.dst (.tup []) s.st))
     | .tup [] => FA P r K (s.put i.dst (.tup []) s.st)
     | _ => False
def SV : PV → List Nat
 | .own t _ => [t]
 | _ => []
def Bg3 : List PV → List Nat
 | [] => []
 | p :: ps => SV p ++ Bg3 ps
def Bu9 : List PV → List Nat
 | [] => []
 | .agg ds :: ps => Bg3 ds ++ Bu9 ps
 | p :: ps => SV p ++ Bu9 ps
def Cg6 : PV → List Nat
 | .agg ps => Bg3 ps
 | .tup ps => Bu9 ps
 | p => SV p
def NL (s : XS) : List XA → List Nat
 | [] => []
 | a :: r => Bg3 (ev s a).cells ++ NL s r
def CO (s : XS) : List XA → List Nat
 | [] => []
 | a :: r => Cg6 (ev s a) ++ CO s r
def ER (o : XOp) (s : XS) : List Nat :=
 match o with
 | .load _ _ x => (match ev s x with | .ptr b _ => [b] | _ => [])
 | .buildSlice _ parts => NL s parts
 | .indexAddr _ x _ => SV (ev s x)
 | .sliceR _ x _ _ _ => SV (ev s x)
 | .lenR x => SV (ev s x)
 | _ => []
def CI (st : List Content) : List (Nat × Content) → List Content
 | [] => st
 | (b, c) :: r => CI (st.set b c) r
def BU7 (P : Program) (f : FuncId) (args : List PV) (st : List Content) (idx : Nat) (v : PV) (U : List (Nat × Content)) : Prop :=
 Aw P f args st fun p st' => (p = v ∧ st' = CI st U) ∨ ∃ e ver rows, st[idx]? = some .fresh ∧ p = .own st.length ver ∧ st' = st ++ [.row e ver rows] ∧ v = .own idx ver ∧ U = [(idx, .row e ver rows)]
def BP4 (P : Program) (f : FuncId) (args : List PV) (s : XS) (idx : Nat) (toks : List Nat) (K : PV → List (Nat × Content) → List Nat → Prop) : Prop :=
 ∃ v U R, (∀ st2, st2.length = s.st.length → (∀ b, b ∈ R → st2[b]? = s.st[b]?) → BU7 P f args st2 idx v U) ∧ K v U (R ++ U.map (·.1) ++ toks)
def Gp (P : Program) (o : XOp) (idx : Nat) (K : PV → List (Nat × Content) → List Nat → Prop) (s : XS) : Prop :=
 match o with
 | .box x => s.st[idx]? = some .fresh ∧ ((ev s x).cells.all PV.one) = true ∧ K (.ptr idx 0) [(idx, .box (ev s x).cells)] [idx]
 | .alloc zero => s.st[idx]? = some .fresh ∧ K (.ptr idx 0) [(idx, .box zero)] [idx]
 | .store size x y => match ev s x with
   | .ptr b off => match s.st[b]? with
     | some (.box cells) => (ev s y).cells.length = size ∧ off + size ≤ cells.length ∧ ((ev s y).cells.all PV.one) = true ∧ K (.tup []) [(b, .box (splice cells off (ev s y).cells))] [b]
     | _ => False
   | _ => False
 | .append e size bytes x y => match A4 s.st (ev s y) with
   | some ys => (∀ row, row ∈ ys → row.length = size) ∧ (match ev s x with
     | .ex rows => s.st[idx]? = some .fresh ∧ (∀ row, row ∈ rows → row.length = size) ∧ (rows.length + ys.length) * bytes ≤ 140737488355328 ∧ K (.own idx 1) [(idx, .row e 1 (rows ++ ys))] (idx :: SV (ev s y))
     | .own t ver => match s.st[t]? with
       | some (.row e' ver' rows) => e' = e ∧ ver' = ver ∧ (rows.length + ys.length) * bytes ≤ 140737488355328 ∧ K (.own t (ver + 1)) [(t, .row e (ver + 1) (rows ++ ys))] (t :: SV (ev s y))
       | _ => False
     | _ => False)
   | none => False
 | .call f args => BP4 P f (args.map (fun a => Dh s.st (ev s a))) s idx (CO s args) K
 | .dyn x args => match ev s x with
   | .fn f ps qs => BP4 P f (ps ++ args.map (fun a => Dh s.st (ev s a)) ++ qs) s idx (CO s args) K
   | _ => False
 | .mapSet k e m x y => match ev s m, ev s x, ev s y with
   | .map t, .d (.str b), .d (.bool v) => match s.st[t]? with
     | some (.map k' e' ks) => k' = k ∧ e' = e ∧ b.size ≤ 9223372036854775807 ∧ ks.length < 9223372036854775807 ∧ K (.tup []) [(t, .map k e (ks ++ [b]))] [t]
     | _ => False
   | _, _, _ => False
 | .mkMap _ _ => False
 | .eqNil _ _ => False
 | o => xop P o (fun v _ => K v [] (ER o s)) s
def FY (xs ys : List Nat) : Prop := ∀ x, x ∈ xs → ∀ y, y ∈ ys → x ≠ y
def okPairs (ak : List Nat) (ns R : List Nat) : Nat → List (List Nat × List Nat) → Prop
 | _, [] => True
 | i, (n, r) :: rest => (if ak.contains i = true then True else FY n R ∧ FY ns r) ∧ okPairs ak ns R (i + 1) rest
def IS (P : Program) (anc : List (List Nat)) (base : Nat) : Nat → List XI → List (List Nat × List Nat) → (XS → Prop) → XS → Prop
 | _, [], _, K, s => K s
 | k, i :: r, acc, K, s =>
   match i.guard with
   | none => Gp P i.op (base + i.nm) (fun v U R => okPairs (BP anc k) (U.map (·.1)) R 0 acc ∧ IS P anc base (k + 1) r (acc ++ [(U.map (·.1), R)]) K (s.put i.dst v (CI s.st U))) s
   | some (t, want) => match s.r t with
     | .d (.bool b) => (b = want → Gp P i.op (base + i.nm) (fun v U R => okPairs (BP anc k) (U.map (·.1)) R 0 acc ∧ IS P anc base (k + 1) r (acc ++ [(U.map (·.1), R)]) K (s.put i.dst v (CI s.st U))) s) ∧
         (b = !want → okPairs (BP anc k) [] [] 0 acc ∧ IS P anc base (k + 1) r (acc ++ [([], [])]) K (s.put i.dst (.tup []) s.st))
     | .tup [] => okPairs (BP anc k) [] [] 0 acc ∧ IS P anc base (k + 1) r (acc ++ [([], [])]) K (s.put i.dst (.tup []) s.st)
     | _ => False
def F2 (P : Program) (base : Nat) : List XI → (XS → Prop) → XS → Prop
 | [], K, s => K s
 | i :: r, K, s =>
   match i.guard with
   | none => Gp P i.op (base + i.nm) (fun v U _ => F2 P base r K (s.put i.dst v (CI s.st U))) s
   | some (t, want) => match s.r t with
     | .d (.bool b) => (b = want → Gp P i.op (base + i.nm) (fun v U _ => F2 P base r K (s.put i.dst v (CI s.st U))) s) ∧
         (b = !want → F2 P base r K (s.put i.dst (.tup []) s.st))
     | .tup [] => F2 P base r K (s.put i.dst (.tup []) s.st)
     | _ => False
inductive XE where
 | normal
 | exit (id : Nat)
 | ret
def XS.cutTo (s : XS) (k : Nat) : XS := ⟨fun i => cutV k (s.r i), HI k s.st⟩
inductive Ghost (P : Program) (n : Nat) : XS → XS → Prop
 | refl (s : XS) : Ghost P n s s
 | cut (s : XS) (k : Nat) (h : n ≤ k) : Ghost P n s (s.cutTo k)
 | adopt (s : XS) (i : Nat) (rows : List (List D)) (e size : Nat) (h : s.r i = .ex rows) (hs : (P.info? e).map (·.size) = some size) (hz : ∀ row, row ∈ rows → row.length = size) : Ghost P n s ⟨upd s.r i (.own s.st.length 0), s.st ++ [.row e 0 rows]⟩
 | adoptV (s : XS) (i : Nat) (rows : List (List D)) (e size ver : Nat) (h : s.r i = .ex rows) (hs : (P.info? e).map (·.size) = some size) (hz : ∀ row, row ∈ rows → row.length = size) : Ghost P n s ⟨upd s.r i (.own s.st.length ver), s.st ++ [.row e ver rows]⟩
 | kill (s : XS) (x : Nat) : Ghost P n s ⟨s.r, s.st.set x .dead⟩
 | adoptB (s : XS) (x off : Nat) (rows : List (List D)) (e size : Nat) {cells : List PV} (hx : s.st[x]? = some (.box cells)) (hc : cells[off]? = some (.ex rows)) (hs : (P.info? e).map (·.size) = some size) (hz : ∀ row, row ∈ rows → row.length = size) : Ghost P n s ⟨s.r, s.st.set x (.box (cells.set off (.own s.st.length 0))) ++ [.row e 0 rows]⟩
 | freeze (s : XS) (i : Nat) : Ghost P n s ⟨upd s.r i (Dh s.st (s.r i)), s.st⟩
 | freezeB (s : XS) (x off : Nat) (rows : List (List D)) {cells : List PV} (hx : s.st[x]? = some (.box cells)) (hc : cells[off]? = some (.ex rows)) : Ghost P n s ⟨s.r, s.st.set x (.box (cells.set off (.d (.sl rows))))⟩
 | freezeP (s : XS) (i x : Nat) (ds : List D) (hi : s.r i = .ptr x 0) (hx : s.st[x]? = some (.box (ds.map .d))) : Ghost P n s ⟨upd s.r i (.dp ds), s.st.set x .dead⟩
 | freezeO (s : XS) (x off t ver : Nat) (e : TypeId) (rows : List (List D)) {cells : List PV} (hx : s.st[x]? = some (.box cells)) (hc : cells[off]? = some (.own t ver)) (ht : s.st[t]? = some (.row e ver rows)) : Ghost P n s ⟨s.r, s.st.set x (.box (cells.set off (.d (.sl rows))))⟩
 | havoc (s : XS) (r : Nat → PV) (h : ∀ i, r i = s.r i ∨ r i = .undef) : Ghost P n s ⟨r, s.st⟩
 | trans {a b c : XS} (h : Ghost P n a b) (k : Ghost P n b c) : Ghost P n a c
def Lz (P : Program) (n : Nat) (F : (XS → Prop) → XS → Prop) (s : XS) : Prop :=
 ∃ I : Nat → XS → Prop, (∃ m s', Ghost P n s s' ∧ I m s') ∧ ∀ m s, I m s → F (fun s1 => ∃ m' s', m' < m ∧ Ghost P n s1 s' ∧ I m' s') s
def Hp (K : XS → Prop) (Q : XE → XS → Prop) : XE → XS → Prop
 | .normal, s => K s
 | e, s => Q e s
def Cq (id : Nat) (Q : XE → XS → Prop) : XE → XS → Prop
 | .exit id', s => if id' = id then Q .normal s else Q (.exit id') s
 | e, s => Q e s
def BH (P : Program) (n : Nat) : XC → (XE → XS → Prop) → XS → Prop
 | .skip, Q, s => Q .normal s
 | .region ops, Q, s => FA P ops (Q .normal) s
 | .regionD ops anc nf, Q, s => IS P anc s.st.length 0 ops [] (Q .normal) ⟨s.r, s.st ++ List.replicate nf .fresh⟩
 | .regionS ops nf, Q, s => F2 P s.st.length ops (Q .normal) ⟨s.r, s.st ++ List.replicate nf .fresh⟩
 | .seq a b, Q, s => BH P n a (Hp (BH P n b Q) Q) s
 | .cond c a b, Q, s => match ev s c with
   | .d (.bool t) => (t = true → BH P n a Q s) ∧ (t = false → BH P n b Q s)
   | _ => False
 | .block id b, Q, s => BH P n b (Cq id Q) s
 | .loop b, Q, s => Lz P n (fun K s => BH P n b (Hp K Q) s) s
 | .exit id, Q, s => Q (.exit id) s
 | .ret, Q, s => Q .ret s
 | .bad, Q, s => False
end Go.Ax
