/- The abstract operations and the tables that they read. No condition. -/
import Derived.Test.YtlgilgaiibdgoaaAbs1
set_option linter.unusedSimpArgs false
set_option linter.unusedVariables false
namespace Go.Abs
open Go

def absCell : Value → AVal
  | .int k n => .pv (.int k n)
  | .bool b => .pv (.bool b)
  | .string s => .pv (.str s.data.toList)
  | .slice none 0 0 => .snil
  | .pointer none => .pv .nilptr
  | .map none => .pv .nilmap
  | _ => .junk

def absConst : Value → AVal
  | .agg cs => .agg (cs.toList.map absCell)
  | v => absCell v

structure Ty where
  size : Nat
  bytes : Nat
  agg : Bool
  zero : Option (List AVal)
  fields : List (Nat × Nat)
  eSize : Nat
  eBytes : Nat
  eZero : Bool
  kKind : Kd
  eZV : Option (Bool × List PVal)
  kind : Kd
  deriving Inhabited

def AVal.cells : AVal → List AVal
  | .agg cs => cs
  | v => [v]

def AVal.toP : AVal → Option PVal
  | .pv p => some p
  | .snil => some (.slice [])
  | _ => none

def toPs : List AVal → Option (List PVal)
  | [] => some []
  | a :: r => match a.toP, toPs r with
    | some p, some ps => some (p :: ps)
    | _, _ => none

def kdOf (P : Program) (t : TypeId) : Kd := match P.underlying t with | some (.int k) => .int k | some .bool => .bool | some .string => .string | _ => .other
def tySize (P : Program) (t : TypeId) : Nat := match P.info? t with | some i => i.size | none => 0
def tyBytes (P : Program) (t : TypeId) : Nat := match P.info? t with | some i => i.bytes | none => 0
def tyZero (P : Program) (t : TypeId) : Option (List AVal) :=
  match P.info? t with
  | some i => match i.zero with
    | some z => some (z.cells.toList.map absCell)
    | none => none
  | none => none

def tyEZ (P : Program) (t : TypeId) : Bool := match tyZero P t with | some z => z.length == tySize P t | none => false

def tyZV (P : Program) (t : TypeId) : Option (Bool × List PVal) :=
  match P.info? t with
  | some i => match i.zero with
    | some (.agg cs) => (toPs (cs.toList.map absCell)).map fun ps => (true, ps)
    | some v => (absCell v).toP.map fun p => (false, [p])
    | none => none
  | none => none

def tyOf (P : Program) (t : TypeId) : Option Ty :=
  match P.info? t, P.underlying t with
  | some i, some d => some {
      size := i.size, bytes := i.bytes, zero := tyZero P t,
      agg := match d with | .struct _ | .array _ _ => true | _ => false,
      fields := match d with | .struct fs => fs.toList.map fun f => (f.offset, tySize P f.type) | _ => [],
      eSize := match d with | .slice e | .array _ e => tySize P e | _ => 0,
      eBytes := match d with | .slice e | .array _ e => tyBytes P e | _ => 0,
      eZero := match d with | .slice e | .array _ e => tyEZ P e | _ => false,
      kKind := match d with | .map k _ => kdOf P k | _ => .other,
      eZV := match d with | .map _ e => tyZV P e | _ => none,
      kind := match d with | .map _ _ => .map | .int k => .int k | .bool => .bool | .string => .string | .slice _ => .slice | .array n _ => .array n | .struct _ => .struct | _ => .other }
  | _, _ => none

structure Env where
  ty : Nat → Option Ty
  gl : Nat → Option (List PVal)
  site : Nat → Nat
  nobj : Nat

def EnvOK (P : Program) (env : Env) : Prop := ∀ t ty, env.ty t = some ty → tyOf P t = some ty

def GOK (env : Env) (M : Mem) : Prop := ∀ b cs, env.gl b = some cs → ∀ j, j < cs.length → ∃ u, M b j = some u ∧ Rd M (cs.getD j .nilptr) u

theorem GOK.mono {env : Env} {M M' : Mem} (h : GOK env M) (hM : Mem.le M M') : GOK env M' := fun b cs hb j hj =>
  let ⟨u, hu, hr⟩ := h b cs hb j hj; ⟨u, hM _ _ _ hu, hr.mono hM⟩

def aeval (env : Env) (σ : St) : Operand → AVal
  | .tmp t => σ.slot t
  | .const v => absConst v
  | .global b => match env.gl b with | some cs => .pv (.ptr cs) | none => .junk
  | .func _ => .junk

structure Eff where
  val : AVal
  upd : List (Nat × AObj)

def abin (op : BinOp) (kd : Option Kd) : PVal → PVal → Option PVal
  | .int k a, .int k' b => if k = k' then
      match op with
      | .add => some (.int k (k.wrap (a + b)))
      | .sub => some (.int k (k.wrap (a - b)))
      | .mul => some (.int k (k.wrap (a * b)))
      | .quo => if b = 0 then none else some (.int k (k.wrap (a.tdiv b)))
      | .rem => if b = 0 then none else some (.int k (a.tmod b))
      | .eql => some (.bool (a == b))
      | .neq => some (.bool (a != b))
      | .lss => some (.bool (decide (a < b)))
      | .leq => some (.bool (decide (a ≤ b)))
      | .gtr => some (.bool (decide (a > b)))
      | .geq => some (.bool (decide (a ≥ b)))
      | _ => none
    else none
  | .str s, .str t =>
      match op with
      | .eql => some (.bool (s == t))
      | .neq => some (.bool (!(s == t)))
      | .add => if s.length + t.length ≤ 4611686018427387904 then some (.str (s ++ t)) else none
      | _ => none
  | .bool a, .bool b => if kd = some .bool then
      match op with
      | .eql => some (.bool (a == b))
      | .neq => some (.bool (!(a == b)))
      | _ => none
    else none
  | _, _ => none

def imax (x y : Int) : Int := if y > x then y else x
def imin (x y : Int) : Int := if y < x then y else x
def amax (a b : PVal) : Option PVal :=
  match a, b with
  | .int k x, .int _ y => some (.int k (imax x y))
  | _, _ => none
def amin (a b : PVal) : Option PVal :=
  match a, b with
  | .int k x, .int _ y => some (.int k (imin x y))
  | _, _ => none

def afold (f : PVal → PVal → Option PVal) : PVal → List AVal → Option PVal
  | p, [] => some p
  | p, .pv q :: r => match f p q with | some x => afold f x r | none => none
  | _, _ :: _ => none

def splice (cs : List AVal) (off : Nat) (v : List AVal) : List AVal := cs.take off ++ v ++ cs.drop (off + v.length)

/-- The parts of a struct or an array laid into the zero cells. -/
def afill (place : Nat → Option (Nat × Nat)) (cells : List AVal) : List (Nat × AVal) → Option (List AVal)
  | [] => some cells
  | (i, v) :: rest =>
    match place i with
    | none => none
    | some (off, size) =>
      if v.cells.length = size ∧ off + size ≤ cells.length ∧ v.cells.all AVal.isCell = true then afill place (splice cells off v.cells) rest else none

/-- The parts of a slice literal, each index in its turn. -/
def arows (sz : Nat) : Nat → List (Nat × AVal) → Option (List (List PVal))
  | _, [] => some []
  | k, (i, v) :: rest =>
    if i = k ∧ v.cells.length = sz then
      match toPs v.cells, arows sz (k + 1) rest with
      | some ps, some r => some (ps :: r)
      | _, _ => none
    else none

/-- What may be appended: the elements of a slice, read. -/
def srcRows (ob : Nat → Option AObj) : AVal → Option (List (List PVal))
  | .snil => some []
  | .pv (.slice xs) => some xs
  | .row id n => match ob id with
    | some (.row _ xs) => if xs.length = n then some xs else none
    | _ => none
  | _ => none

def keyEq : PVal → PVal → Bool
  | .int k a, .int k' b => k == k' && a == b
  | .str s, .str t => s == t
  | .bool a, .bool b => a == b
  | _, _ => false
def mfind (k : PVal) : List (PVal × Bool × List PVal) → Option (Bool × List PVal)
  | [] => none
  | e :: r => if keyEq k e.1 then some e.2 else mfind k r
def mset (k : PVal) (v : Bool × List PVal) : List (PVal × Bool × List PVal) → List (PVal × Bool × List PVal)
  | [] => [(k, v)]
  | e :: r => if keyEq k e.1 then (k, v) :: r else e :: mset k v r
/-- A value as the element of a map. -/
def toMV : AVal → Option (Bool × List PVal)
  | .agg cs => (toPs cs).map fun ps => (true, ps)
  | v => v.toP.map fun p => (false, [p])

def roomOk (n bytes : Nat) : Bool := decide (n * bytes ≤ 140737488355328)

def abound (ev : Operand → AVal) (o : Option Operand) (dflt : Nat) : Option Int :=
  match o with
  | none => some dflt
  | some q => match ev q with
    | .pv (.int _ i) => some i
    | _ => none

def aop (env : Env) (dst : Option Nat) (ev : Operand → AVal) (ob : Nat → Option AObj) : Op → Option Eff
  | .move x => some ⟨ev x, []⟩
  | .assign x => some ⟨ev x, []⟩
  | .pick c a b => match ev c with
    | .pv (.bool t) => some ⟨if t then ev a else ev b, []⟩
    | _ => none
  | .alloc t => match env.ty t, dst with
    | some ty, some d => match ty.zero, ob (env.site d) with
      | some z, none => if env.site d < env.nobj ∧ z.all AVal.isCell = true then some ⟨.ref (env.site d) 0, [(env.site d, .cells z)]⟩ else none
      | _, _ => none
    | _, _ => none
  | .box _ x => match dst with
    | some d => match ob (env.site d) with
      | none => if env.site d < env.nobj ∧ (ev x).cells.all AVal.isCell = true then some ⟨.ref (env.site d) 0, [(env.site d, .cells (ev x).cells)]⟩ else none
      | _ => none
    | none => none
  | .build t parts => match env.ty t with
    | some ty => match ty.zero, ty.kind with
      | some z, .struct => if (ty.fields.all fun q => decide (0 < q.2)) = false then none else (afill (fun i => ty.fields[i]?) z (parts.toList.map fun q => (q.1, ev q.2))).map fun cs => ⟨.agg cs, []⟩
      | some z, .array _ => if ty.eSize = 0 then none else (afill (fun i => some (i * ty.eSize, ty.eSize)) z (parts.toList.map fun q => (q.1, ev q.2))).map fun cs => ⟨.agg cs, []⟩
      | _, _ => none
    | none => none
  | .buildSlice t len parts => match env.ty t with
    | some ty => match ty.kind with
      | .slice => if 0 < ty.eSize ∧ parts.size = len ∧ len * ty.eSize ≤ 65536 ∧ ty.eZero = true then
          match arows ty.eSize 0 (parts.toList.map fun q => (q.1, ev q.2)) with
          | some xs => some ⟨.pv (.slice xs), []⟩
          | none => none
        else none
      | _ => none
    | none => none
  | .load t p => match env.ty t, ev p with
    | some ty, .ref id off => match ob id with
      | some (.cells cs) => if off + ty.size ≤ cs.length ∧ 0 < ty.size then
          some ⟨if ty.agg then .agg ((cs.drop off).take ty.size) else cs.getD off .junk, []⟩ else none
      | _ => none
    | some ty, .pv (.ptr cs) => if ty.size ≤ cs.length ∧ 0 < ty.size then
          some ⟨if ty.agg then .agg ((cs.take ty.size).map .pv) else .pv (cs.getD 0 .nilptr), []⟩ else none
    | some ty, .eref id i j sz => match ob id with
      | some (.row sz' xs) => if sz = sz' ∧ i < xs.length ∧ j + ty.size ≤ sz ∧ 0 < ty.size then
          some ⟨if ty.agg then .agg ((((xs.getD i []).drop j).take ty.size).map .pv) else .pv (pcell xs i j), []⟩ else none
      | _ => none
    | _, _ => none
  | .store t p x => match env.ty t, ev p with
    | some ty, .ref id off => match ob id with
      | some (.cells cs) => if (ev x).cells.length = ty.size ∧ off + ty.size ≤ cs.length ∧ (ev x).cells.all AVal.isCell = true then
          some ⟨.junk, [(id, .cells (splice cs off (ev x).cells))]⟩ else none
      | _ => none
    | _, _ => none
  | .nilCheck x => match ev x with
    | .ref id off => some ⟨.ref id off, []⟩
    | .eref id i j sz => some ⟨.eref id i j sz, []⟩
    | .pv (.ptr cs) => some ⟨.pv (.ptr cs), []⟩
    | _ => none
  | .binOp op t x y _ => match ev x, ev y with
    | .pv p, .pv q => (abin op ((env.ty t).map Ty.kind) p q).map fun r => ⟨.pv r, []⟩
    | _, _ => none
  | .unOp op _ x => match op, ev x with
    | .not, .pv (.bool b) => some ⟨.pv (.bool !b), []⟩
    | .neg, .pv (.int k n) => some ⟨.pv (.int k (k.wrap (0 - n))), []⟩
    | _, _ => none
  | .convert st dt x => match env.ty st, env.ty dt, ev x with
    | some _, some ty, .pv (.int _ n) => match ty.kind with
      | .int k => some ⟨.pv (.int k (k.wrap n)), []⟩
      | _ => none
    | _, _, _ => none
  | .fieldAddr s x k => match env.ty s with
    | some ty => match ty.kind, ty.fields[k]? with
      | .struct, some (fo, fs) => if 0 < fs then match ev x with
          | .ref id off => some ⟨.ref id (off + fo), []⟩
          | .pv (.ptr cs) => if fo + fs ≤ cs.length then some ⟨.pv (.ptr ((cs.drop fo).take fs)), []⟩ else none
          | .eref id i j sz => some ⟨.eref id i (j + fo) sz, []⟩
          | _ => none
        else none
      | _, _ => none
    | none => none
  | .indexAddr t x ix => match env.ty t, ev ix with
    | some ty, .pv (.int _ i) => if ty.eSize = 0 then none else match ty.kind, ev x with
      | .slice, .pv (.slice xs) => if 0 ≤ i ∧ i.toNat < xs.length ∧ (xs.getD i.toNat []).length = ty.eSize then some ⟨.pv (.ptr (xs.getD i.toNat [])), []⟩ else none
      | .slice, .row id n => match ob id with
        | some (.row sz _) => if 0 ≤ i ∧ i.toNat < n ∧ sz = ty.eSize then some ⟨.eref id i.toNat 0 sz, []⟩ else none
        | _ => none
      | .array n, .ref id off => if 0 ≤ i ∧ i.toNat < n then some ⟨.ref id (off + i.toNat * ty.eSize), []⟩ else none
      | .array n, .pv (.ptr cs) => if 0 ≤ i ∧ i.toNat < n ∧ i.toNat * ty.eSize < cs.length then some ⟨.pv (.ptr ((cs.drop (i.toNat * ty.eSize)).take ty.eSize)), []⟩ else none
      | _, _ => none
    | _, _ => none
  | .index t x ix => match env.ty t, ev ix with
    | some ty, .pv (.int _ i) => match ty.kind, ev x with
      | .string, .pv (.str s) => if 0 ≤ i ∧ i.toNat < s.length then some ⟨.pv (.int .u8 ((s.getD i.toNat 0).toNat : Int)), []⟩ else none
      | _, _ => none
    | _, _ => none
  | .extract x k => match ev x with
    | .tup vs => match vs[k]? with
      | some v => some ⟨v, []⟩
      | none => none
    | _ => none
  | .slice t x lo hi mx => match env.ty t, mx with
    | some ty, none =>
      match ty.kind, ev x with
      | .string, .pv (.str s) => match abound ev lo 0, abound ev hi s.length with
        | some l, some h => if 0 ≤ l ∧ l ≤ h ∧ h ≤ s.length then some ⟨.pv (.str ((s.take h.toNat).drop l.toNat)), []⟩ else none
        | _, _ => none
      | .slice, .pv (.slice xs) => match abound ev lo 0, abound ev hi xs.length with
        | some l, some h => if 0 ≤ l ∧ l ≤ h ∧ h ≤ xs.length ∧ (l = 0 ∨ (xs.getD 0 []).length = ty.eSize) ∧ 0 < ty.eSize then some ⟨.pv (.slice ((xs.take h.toNat).drop l.toNat)), []⟩ else none
        | _, _ => none
      | _, _ => none
    | _, _ => none
  | .makeMap t none => match env.ty t, dst with
    | some ty, some d => match ty.kind, ob (env.site d) with
      | .map, none => if env.site d < env.nobj ∧ ty.kKind ≠ .other then some ⟨.map (env.site d), [(env.site d, .map ty.kKind [])]⟩ else none
      | _, _ => none
    | _, _ => none
  | .lookup t x k ok => match env.ty t, ev x, ev k with
    | some ty, .map id, .pv key => match ty.kind, ob id, ty.eZV with
      | .map, some (.map kd es), some z => if kd = ty.kKind ∧ keyOk kd key = true then
          some ⟨if ok then .tup [mval ((mfind key es).getD z), .pv (.bool (mfind key es).isSome)] else mval ((mfind key es).getD z), []⟩ else none
      | _, _, _ => none
    | _, _, _ => none
  | .mapUpdate t m k x => match env.ty t, ev m, ev k, toMV (ev x) with
    | some ty, .map id, .pv key, some v => match ty.kind, ob id with
      | .map, some (.map kd es) => if kd = ty.kKind ∧ keyOk kd key = true then some ⟨.junk, [(id, .map kd (mset key v es))]⟩ else none
      | _, _ => none
    | _, _, _, _ => none
  | .call ⟨.builtin .len, args, tys⟩ => match args.toList, tys.toList with
    | [x], [t] => match env.ty t with
      | some ty => match ty.kind, ev x with
        | .string, .pv (.str s) => some ⟨.pv (.int .i64 s.length), []⟩
        | .slice, .pv (.slice xs) => some ⟨.pv (.int .i64 xs.length), []⟩
        | .slice, .snil => some ⟨.pv (.int .i64 0), []⟩
        | .slice, .row _ n => some ⟨.pv (.int .i64 n), []⟩
        | .array n, _ => some ⟨.pv (.int .i64 n), []⟩
        | _, _ => none
      | none => none
    | _, _ => none
  | .call ⟨.builtin .max, args, _⟩ => match args.toList with
    | x :: r => match ev x with
      | .pv p => (afold amax p (r.map ev)).map fun q => ⟨.pv q, []⟩
      | _ => none
    | [] => none
  | .call ⟨.builtin .min, args, _⟩ => match args.toList with
    | x :: r => match ev x with
      | .pv p => (afold amin p (r.map ev)).map fun q => ⟨.pv q, []⟩
      | _ => none
    | [] => none
  | .call ⟨.builtin .append, args, tys⟩ => match args.toList, tys.toList, dst with
    | [x, y], [t, t'], some d => match env.ty t, env.ty t', ob (env.site d) with
      | some ty, some ty', none => match ty.kind, ty'.kind, srcRows ob (ev y) with
        | .slice, .slice, some ys => match ev x with
          | .snil => if env.site d < env.nobj ∧ 0 < ty.eBytes ∧ 0 < ty.eSize ∧ ty.eSize = ty'.eSize ∧ roomOk (ys.length) ty.eBytes = true ∧ (ys.all fun y => y.length == ty.eSize) = true ∧ ty.eZero = true then
              some ⟨.row (env.site d) ys.length, [(env.site d, .row ty.eSize ys)]⟩ else none
          | .row id n => match ob id with
            | some (.row sz xs) => if env.site d < env.nobj ∧ env.site d ≠ id ∧ 0 < ty.eBytes ∧ xs.length = n ∧ sz = ty.eSize ∧ 0 < sz ∧ ty'.eSize = sz ∧ roomOk (xs.length + ys.length) ty.eBytes = true ∧ (ys.all fun y => y.length == sz) = true ∧ ty.eZero = true then
                some ⟨.row (env.site d) (n + ys.length), [(id, .dead), (env.site d, .row sz (xs ++ ys))]⟩ else none
            | _ => none
          | _ => none
        | _, _, _ => none
      | _, _, _ => none
    | _, _, _ => none
  | _ => none

/-- The objects that an operation looks at or writes. -/
def atgt (env : Env) (dst : Option Nat) (ev : Operand → AVal) : Op → List Nat
  | .alloc _ => match dst with | some d => [env.site d] | none => []
  | .box _ _ => match dst with | some d => [env.site d] | none => []
  | .load _ p => match ev p with | .ref id _ => [id] | .eref id _ _ _ => [id] | _ => []
  | .store _ p _ => match ev p with | .ref id _ => [id] | _ => []
  | .indexAddr _ x _ => match ev x with | .row id _ => [id] | _ => []
  | .makeMap _ none => match dst with | some d => [env.site d] | none => []
  | .lookup _ x _ _ => match ev x with | .map id => [id] | _ => []
  | .mapUpdate _ m _ _ => match ev m with | .map id => [id] | _ => []
  | .call ⟨.builtin .append, args, _⟩ => match args.toList with
    | [x, y] => (match dst with | some d => [env.site d] | none => []) ++ (match ev x with | .row id _ => [id] | _ => []) ++ (match ev y with | .row id _ => [id] | _ => [])
    | _ => []
  | _ => []

def St.app (σ : St) (dst : Option Nat) (e : Eff) : St where
  slots := match dst with | some d => σ.slots.set d e.val | none => σ.slots
  objs := e.upd.foldl (fun l q => l.set q.1 (some q.2)) σ.objs

end Go.Abs
