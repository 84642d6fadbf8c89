/- A sound walk of the program by abstract states, part 3: its theorems have no condition beyond what they state. -/
import Derived.Test.YtfinhhblcdkpgaaGreatDoorLib2
import Derived.Defers
import Derived.Recover
import Derived.KernelRfl
import Derived.Below
import Derived.Shelf.Strings.Builder1
import Derived.Shelf.Strings.Split
import Derived.Lib.ParseIntB
import Derived.Lib.Bytealg
import Derived.Lib.Join
import Derived.Lib.ItoaNum
set_option linter.unusedSimpArgs false
set_option linter.unusedVariables false
set_option linter.defProp false
namespace Go.Abs
open Go
variable {P : Program} {env : Env} {pin : Nat} {σ : St} {Q : Exit → St → Prop}
theorem aopE1 : ∀ (env : Env) (dst : Option Nat) (ev : Operand → AVal) (ob : Nat → Option AObj), ∀ x, aop env dst ev ob (.move x) = (some ⟨ev x, []⟩) := fun _ _ _ _ _ => rfl
theorem aopE2 : ∀ (env : Env) (dst : Option Nat) (ev : Operand → AVal) (ob : Nat → Option AObj), ∀ x, aop env dst ev ob (.assign x) = (some ⟨ev x, []⟩) := fun _ _ _ _ _ => rfl
theorem aopE3 : ∀ (env : Env) (dst : Option Nat) (ev : Operand → AVal) (ob : Nat → Option AObj), ∀ c a b, aop env dst ev ob (.pick c a b) = (match ev c with
    | .pv (.bool t) => some ⟨if t then ev a else ev b, []⟩
    | _ => none) := fun _ _ _ _ _ _ _ => rfl
theorem aopE4 : ∀ (env : Env) (dst : Option Nat) (ev : Operand → AVal) (ob : Nat → Option AObj), ∀ t, aop env dst ev ob (.alloc t) = (match env.ty t, dst with
    | some ty, some d => match ty.bld with
      | some e => match ob (env.site d), ob (env.site d + 1) with
        | none, none => if env.site d + 1 < env.nobj then some ⟨.ref (env.site d) 0, [(env.site d + 1, .bb e []), (env.site d, .bh t e (env.site d + 1) 0)]⟩ else none
        | _, _ => none
      | none => match ty.zero, ob (env.site d) with
        | some z, none => if env.site d < env.nobj ∧ z.all AVal.isCell = true then some ⟨.ref (env.site d) 0, [(env.site d, .cells z)]⟩ else none
        | _, _ => none
    | _, _ => none) := fun _ _ _ _ _ => rfl
theorem aopE5 : ∀ (env : Env) (dst : Option Nat) (ev : Operand → AVal) (ob : Nat → Option AObj), ∀ z1 x, aop env dst ev ob (.box z1 x) = (match dst with
    | some d => match ob (env.site d) with
      | none => if env.site d < env.nobj ∧ (ev x).cells.all AVal.isCell = true then some ⟨.ref (env.site d) 0, [(env.site d, .cells (ev x).cells)]⟩ else none
      | _ => none
    | none => none) := fun _ _ _ _ _ _ => rfl
theorem aopE6 : ∀ (env : Env) (dst : Option Nat) (ev : Operand → AVal) (ob : Nat → Option AObj), ∀ t parts, aop env dst ev ob (.build t parts) = (match env.ty t with
    | some ty => match ty.zero, ty.kind with
      | some z, .struct => if (ty.fields.all fun q => decide (0 < q.2)) = false then none else (afill (fun i => ty.fields[i]?) z (parts.toList.map fun q => (q.1, ev q.2))).map fun cs => ⟨.agg cs, []⟩
      | some z, .array _ => if ty.eSize = 0 then none else (afill (fun i => some (i * ty.eSize, ty.eSize)) z (parts.toList.map fun q => (q.1, ev q.2))).map fun cs => ⟨.agg cs, []⟩
      | _, _ => none
    | none => none) := fun _ _ _ _ _ _ => rfl
theorem aopE7 : ∀ (env : Env) (dst : Option Nat) (ev : Operand → AVal) (ob : Nat → Option AObj), ∀ t len parts, aop env dst ev ob (.buildSlice t len parts) = (match env.ty t with
    | some ty => match ty.kind with
      | .slice => if 0 < ty.eSize ∧ parts.size = len ∧ len * ty.eSize ≤ 65536 ∧ ty.eZero = true then
          match arows ty.eSize 0 (parts.toList.map fun q => (q.1, ev q.2)) with
          | some xs => some ⟨.pv (.slice xs), []⟩
          | none => match dst with
            | some d => match acells ty.eSize 0 (parts.toList.map fun q => (q.1, ev q.2)), ob (env.site d) with
              | some cs, none => if env.site d < env.nobj then some ⟨.csl (env.site d) len ty.eSize, [(env.site d, .cells cs)]⟩ else none
              | _, _ => none
            | none => none
        else none
      | _ => none
    | none => none) := fun _ _ _ _ _ _ _ => rfl
theorem aopE8 : ∀ (env : Env) (dst : Option Nat) (ev : Operand → AVal) (ob : Nat → Option AObj), ∀ t p, aop env dst ev ob (.load t p) = (match env.ty t, ev p with
    | some ty, .ref id off => match ob id with
      | some (.cells cs) => if off + ty.size ≤ cs.length ∧ 0 < ty.size then
          some ⟨if ty.agg then .agg ((cs.drop off).take ty.size) else cs.getD off .junk, []⟩ else none
      | _ => none
    | some ty, .pv (.ptr cs) => if ty.size ≤ cs.length ∧ 0 < ty.size then
          some ⟨if ty.agg then .agg ((cs.take ty.size).map .pv) else .pv (cs.getD 0 .nilptr), []⟩ else none
    | some ty, .eref id i j sz => match ob id with
      | some (.row sz' xs) => if sz = sz' ∧ i < xs.length ∧ j + ty.size ≤ sz ∧ 0 < ty.size then
          some ⟨if ty.agg then .agg ((((xs.getD i []).drop j).take ty.size).map .pv) else .pv (pcell xs i j), []⟩ else none
      | _ => none
    | _, _ => none) := fun _ _ _ _ _ _ => rfl
theorem aopE9 : ∀ (env : Env) (dst : Option Nat) (ev : Operand → AVal) (ob : Nat → Option AObj), ∀ t p x, aop env dst ev ob (.store t p x) = (match env.ty t, ev p with
    | some ty, .ref id off => match ob id with
      | some (.cells cs) => if (ev x).cells.length = ty.size ∧ off + ty.size ≤ cs.length ∧ (ev x).cells.all AVal.isCell = true then
          some ⟨.junk, [(id, .cells (splice cs off (ev x).cells))]⟩ else none
      | _ => none
    | some ty, .eref id i j sz => match ob id, toPs (ev x).cells with
      | some (.row sz' xs), some ps => if sz = sz' ∧ i < xs.length ∧ j + ty.size ≤ sz ∧ ps.length = ty.size then
          some ⟨.junk, [(id, .row sz' (rowSet xs i j ps))]⟩ else none
      | _, _ => none
    | _, _ => none) := fun _ _ _ _ _ _ _ => rfl
theorem aopE10 : ∀ (env : Env) (dst : Option Nat) (ev : Operand → AVal) (ob : Nat → Option AObj), ∀ x, aop env dst ev ob (.nilCheck x) = (match ev x with
    | .ref id off => some ⟨.ref id off, []⟩
    | .eref id i j sz => some ⟨.eref id i j sz, []⟩
    | .pv (.ptr cs) => some ⟨.pv (.ptr cs), []⟩
    | _ => none) := fun _ _ _ _ _ => rfl
theorem aopE11 : ∀ (env : Env) (dst : Option Nat) (ev : Operand → AVal) (ob : Nat → Option AObj), ∀ op t x y z1, aop env dst ev ob (.binOp op t x y z1) = (match ev x, ev y with
    | .pv p, .pv q => (if isNilC y = true then anil op ((env.ty t).map Ty.kind) p else abin op ((env.ty t).map Ty.kind) p q).map fun r => ⟨.pv r, []⟩
    | .agg cs, .agg ds => (aeqS op ((env.ty t).bind Ty.eqs) cs ds).map fun b => ⟨.pv (.bool b), []⟩
    | _, _ => none) := fun _ _ _ _ _ _ _ _ _ => rfl
theorem aopE12 : ∀ (env : Env) (dst : Option Nat) (ev : Operand → AVal) (ob : Nat → Option AObj), ∀ op z1 x, aop env dst ev ob (.unOp op z1 x) = (match op, ev x with
    | .not, .pv (.bool b) => some ⟨.pv (.bool !b), []⟩
    | .neg, .pv (.int k n) => some ⟨.pv (.int k (k.wrap (0 - n))), []⟩
    | _, _ => none) := fun _ _ _ _ _ _ _ => rfl
theorem aopE13 : ∀ (env : Env) (dst : Option Nat) (ev : Operand → AVal) (ob : Nat → Option AObj), ∀ st dt x, aop env dst ev ob (.convert st dt x) = (match env.ty st, env.ty dt, ev x with
    | some _, some ty, .pv (.int _ n) => match ty.kind with
      | .int k => some ⟨.pv (.int k (k.wrap n)), []⟩
      | _ => none
    | some sty, some ty, .pv (.slice xs) => match sty.kind, ty.kind, numsOf xs with
      | .slice, .string, some ns => if sty.kKind = .int .u8 then some ⟨.pv (.str (strOf ns)), []⟩ else none
      | _, _, _ => none
    | some sty, some ty, .row id n => match ob id with
      | some (.row _ xs) => match sty.kind, ty.kind, numsOf xs with
        | .slice, .string, some ns => if sty.kKind = .int .u8 ∧ xs.length = n then some ⟨.pv (.str (strOf ns)), []⟩ else none
        | _, _, _ => none
      | _ => none
    | _, _, _ => none) := fun _ _ _ _ _ _ _ => rfl
theorem aopE14 : ∀ (env : Env) (dst : Option Nat) (ev : Operand → AVal) (ob : Nat → Option AObj), ∀ s x k, aop env dst ev ob (.fieldAddr s x k) = (match env.ty s with
    | some ty => match ty.kind, ty.fields[k]? with
      | .struct, some (fo, fs) => if 0 < fs then match ev x with
          | .ref id off => some ⟨.ref id (off + fo), []⟩
          | .pv (.ptr cs) => if fo + fs ≤ cs.length then some ⟨.pv (.ptr ((cs.drop fo).take fs)), []⟩ else none
          | .eref id i j sz => some ⟨.eref id i (j + fo) sz, []⟩
          | _ => none
        else none
      | _, _ => none
    | none => none) := fun _ _ _ _ _ _ _ => rfl
theorem aopE15 : ∀ (env : Env) (dst : Option Nat) (ev : Operand → AVal) (ob : Nat → Option AObj), ∀ t x ix, aop env dst ev ob (.indexAddr t x ix) = (match env.ty t, ev ix with
    | some ty, .pv (.int _ i) => if ty.eSize = 0 then none else match ty.kind, ev x with
      | .slice, .pv (.slice xs) => if 0 ≤ i ∧ i.toNat < xs.length ∧ (xs.getD i.toNat []).length = ty.eSize then some ⟨.pv (.ptr (xs.getD i.toNat [])), []⟩ else none
      | .slice, .row id n => match ob id with
        | some (.row sz _) => if 0 ≤ i ∧ i.toNat < n ∧ sz = ty.eSize then some ⟨.eref id i.toNat 0 sz, []⟩ else none
        | _ => none
      | .slice, .csl id n sz => if 0 ≤ i ∧ i.toNat < n ∧ sz = ty.eSize then some ⟨.ref id (i.toNat * sz), []⟩ else none
      | .array n, .ref id off => if 0 ≤ i ∧ i.toNat < n then some ⟨.ref id (off + i.toNat * ty.eSize), []⟩ else none
      | .array n, .pv (.ptr cs) => if 0 ≤ i ∧ i.toNat < n ∧ i.toNat * ty.eSize < cs.length then some ⟨.pv (.ptr ((cs.drop (i.toNat * ty.eSize)).take ty.eSize)), []⟩ else none
      | _, _ => none
    | _, _ => none) := fun _ _ _ _ _ _ _ => rfl
theorem aopE16 : ∀ (env : Env) (dst : Option Nat) (ev : Operand → AVal) (ob : Nat → Option AObj), ∀ t x ix, aop env dst ev ob (.index t x ix) = (match env.ty t, ev ix with
    | some ty, .pv (.int _ i) => match ty.kind, ev x with
      | .string, .pv (.str s) => if 0 ≤ i ∧ i.toNat < s.length then some ⟨.pv (.int .u8 ((s.getD i.toNat 0).toNat : Int)), []⟩ else none
      | .array n, .agg cs => if 0 ≤ i ∧ i.toNat < n ∧ i.toNat < cs.length ∧ ty.kKind ≠ .other ∧ ty.eSize = 1 then some ⟨cs.getD i.toNat .junk, []⟩ else none
      | _, _ => none
    | _, _ => none) := fun _ _ _ _ _ _ _ => rfl
theorem aopE17 : ∀ (env : Env) (dst : Option Nat) (ev : Operand → AVal) (ob : Nat → Option AObj), ∀ x k, aop env dst ev ob (.extract x k) = (match ev x with
    | .tup vs => match vs[k]? with
      | some v => some ⟨v, []⟩
      | none => none
    | _ => none) := fun _ _ _ _ _ _ => rfl
theorem aopE18 : ∀ (env : Env) (dst : Option Nat) (ev : Operand → AVal) (ob : Nat → Option AObj), ∀ t x lo hi mx, aop env dst ev ob (.slice t x lo hi mx) = (match env.ty t, mx with
    | some ty, none =>
      match ty.kind, ev x with
      | .string, .pv (.str s) => match abound ev lo 0, abound ev hi s.length with
        | some l, some h => if 0 ≤ l ∧ l ≤ h ∧ h ≤ s.length then some ⟨.pv (.str ((s.take h.toNat).drop l.toNat)), []⟩ else none
        | _, _ => none
      | .slice, .pv (.slice xs) => match abound ev lo 0, abound ev hi xs.length with
        | some l, some h => if 0 ≤ l ∧ l ≤ h ∧ h ≤ xs.length ∧ (l = 0 ∨ (xs.getD 0 []).length = ty.eSize) ∧ 0 < ty.eSize then some ⟨.pv (.slice ((xs.take h.toNat).drop l.toNat)), []⟩ else none
        | _, _ => none
      | _, _ => none
    | _, _ => none) := fun _ _ _ _ _ _ _ _ _ => rfl
theorem aopE19 : ∀ (env : Env) (dst : Option Nat) (ev : Operand → AVal) (ob : Nat → Option AObj), ∀ f first cap, aop env dst ev ob (.makeFunc (.func f) first cap) = (if first.size = 0 then some ⟨.clo f (cap.toList.map ev), []⟩ else none) := fun _ _ _ _ _ _ _ => rfl
theorem aopE20 : ∀ (env : Env) (dst : Option Nat) (ev : Operand → AVal) (ob : Nat → Option AObj), ∀ t x, aop env dst ev ob (.makeInterface t x) = (match env.ty t with
    | some ty => if ty.kind = .iface then none else match ev x with
      | .agg cs => match toPs cs with
        | some ps => some ⟨.pv (.ifc t true ps), []⟩
        | none => none
      | .pv p => some ⟨.pv (.ifc t false [p]), []⟩
      | _ => none
    | none => none) := fun _ _ _ _ _ _ => rfl
theorem aopE21 : ∀ (env : Env) (dst : Option Nat) (ev : Operand → AVal) (ob : Nat → Option AObj), ∀ x z1 t ok, aop env dst ev ob (.typeAssert x z1 t ok) = (match env.ty t, ev x with
    | some ty, .pv (.ifc t' ag cs) => if ty.kind ≠ .iface ∧ t' = t ∧ ok = true then some ⟨.tup [if ag then .agg (cs.map .pv) else .pv (cs.getD 0 .nilptr), .pv (.bool true)], []⟩ else none
    | _, _ => none) := fun _ _ _ _ _ _ _ _ => rfl
theorem aopE22 : ∀ (env : Env) (dst : Option Nat) (ev : Operand → AVal) (ob : Nat → Option AObj), ∀ t, aop env dst ev ob (.makeMap t none) = (match env.ty t, dst with
    | some ty, some d => match ty.kind, ob (env.site d) with
      | .map, none => if env.site d < env.nobj ∧ ty.kKind ≠ .other then some ⟨.map (env.site d), [(env.site d, .map ty.kKind [])]⟩ else none
      | _, _ => none
    | _, _ => none) := fun _ _ _ _ _ => rfl
theorem aopE23 : ∀ (env : Env) (dst : Option Nat) (ev : Operand → AVal) (ob : Nat → Option AObj), ∀ t len cap, aop env dst ev ob (.makeSlice t len cap) = (match env.ty t, dst with
    | some ty, some d => match ty.kind, ev len, ev cap with
      | .slice, .pv (.int _ n), .pv (.int _ c) => match ty.eZV, ob (env.site d) with
        | some z, none => match toPs (mval z).cells with
          | some ps => if env.site d < env.nobj ∧ 0 ≤ n ∧ n = c ∧ n * ty.eBytes ≤ 140737488355328 ∧ 0 < ty.eBytes ∧ 0 < ty.eSize ∧ ps.length = ty.eSize then
              some ⟨.row (env.site d) n.toNat, [(env.site d, .row ty.eSize (List.replicate n.toNat ps))]⟩ else none
          | none => none
        | _, _ => none
      | _, _, _ => none
    | _, _ => none) := fun _ _ _ _ _ _ _ => rfl
theorem aopE24 : ∀ (env : Env) (dst : Option Nat) (ev : Operand → AVal) (ob : Nat → Option AObj), ∀ t x k ok, aop env dst ev ob (.lookup t x k ok) = (match env.ty t, ev x, ev k with
    | some ty, .map id, .pv key => match ty.kind, ob id, ty.eZV with
      | .map, some (.map kd es), some z => if kd = ty.kKind ∧ keyOk kd key = true then
          some ⟨if ok then .tup [mval ((mfind key es).getD z), .pv (.bool (mfind key es).isSome)] else mval ((mfind key es).getD z), []⟩ else none
      | _, _, _ => none
    | _, _, _ => none) := fun _ _ _ _ _ _ _ _ => rfl
theorem aopE25 : ∀ (env : Env) (dst : Option Nat) (ev : Operand → AVal) (ob : Nat → Option AObj), ∀ t m k x, aop env dst ev ob (.mapUpdate t m k x) = (match env.ty t, ev m, ev k, toMV (ev x) with
    | some ty, .map id, .pv key, some v => match ty.kind, ob id with
      | .map, some (.map kd es) => if kd = ty.kKind ∧ keyOk kd key = true then some ⟨.junk, [(id, .map kd (mset key v es))]⟩ else none
      | _, _ => none
    | _, _, _, _ => none) := fun _ _ _ _ _ _ _ _ => rfl
theorem aopE26 : ∀ (env : Env) (dst : Option Nat) (ev : Operand → AVal) (ob : Nat → Option AObj), ∀ args tys, aop env dst ev ob (.call ⟨.builtin .len, args, tys⟩) = (match args.toList, tys.toList with
    | [x], [t] => match env.ty t with
      | some ty => match ty.kind, ev x with
        | .string, .pv (.str s) => some ⟨.pv (.int .i64 s.length), []⟩
        | .slice, .pv (.slice xs) => some ⟨.pv (.int .i64 xs.length), []⟩
        | .slice, .snil => some ⟨.pv (.int .i64 0), []⟩
        | .slice, .row _ n => some ⟨.pv (.int .i64 n), []⟩
        | .slice, .csl _ n _ => some ⟨.pv (.int .i64 n), []⟩
        | .array n, _ => some ⟨.pv (.int .i64 n), []⟩
        | _, _ => none
      | none => none
    | _, _ => none) := fun _ _ _ _ _ _ => rfl
theorem aopE27 : ∀ (env : Env) (dst : Option Nat) (ev : Operand → AVal) (ob : Nat → Option AObj), ∀ args z1, aop env dst ev ob (.call ⟨.builtin .max, args, z1⟩) = (match args.toList with
    | x :: r => match ev x with
      | .pv p => (afold amax p (r.map ev)).map fun q => ⟨.pv q, []⟩
      | _ => none
    | [] => none) := fun _ _ _ _ _ _ => rfl
theorem aopE28 : ∀ (env : Env) (dst : Option Nat) (ev : Operand → AVal) (ob : Nat → Option AObj), ∀ args z1, aop env dst ev ob (.call ⟨.builtin .min, args, z1⟩) = (match args.toList with
    | x :: r => match ev x with
      | .pv p => (afold amin p (r.map ev)).map fun q => ⟨.pv q, []⟩
      | _ => none
    | [] => none) := fun _ _ _ _ _ _ => rfl
theorem aopE29 : ∀ (env : Env) (dst : Option Nat) (ev : Operand → AVal) (ob : Nat → Option AObj), ∀ args tys, aop env dst ev ob (.call ⟨.builtin .append, args, tys⟩) = (match args.toList, tys.toList, dst with
    | [x, y], [t, t'], some d => match env.ty t, env.ty t', ob (env.site d) with
      | some ty, some ty', none => match ty.kind, srcKd ty'.kind, srcRows ob (ev y) with
        | .slice, true, some ys => match ev x with
          | .snil => if env.site d < env.nobj ∧ 0 < ty.eBytes ∧ 0 < ty.eSize ∧ roomOk (ys.length) ty.eBytes = true ∧ (ys.all fun y => y.length == ty.eSize) = true ∧ ty.eZero = true then
              some ⟨.row (env.site d) ys.length, [(env.site d, .row ty.eSize ys)]⟩ else none
          | .row id n => match ob id with
            | some (.row sz xs) => if env.site d < env.nobj ∧ env.site d ≠ id ∧ 0 < ty.eBytes ∧ xs.length = n ∧ sz = ty.eSize ∧ 0 < sz ∧ roomOk (xs.length + ys.length) ty.eBytes = true ∧ (ys.all fun y => y.length == sz) = true ∧ ty.eZero = true then
                some ⟨.row (env.site d) (n + ys.length), [(id, .dead), (env.site d, .row sz (xs ++ ys))]⟩ else none
            | _ => none
          | _ => none
        | _, _, _ => none
      | _, _, _ => none
    | _, _, _ => none) := fun _ _ _ _ _ _ => rfl
theorem atgE1 : ∀ (env : Env) (dst : Option Nat) (ev : Operand → AVal), ∀ t, atgt env dst ev (.alloc t) = (match dst with
    | some d => match env.ty t with
      | some ty => match ty.bld with
        | some _ => [env.site d, env.site d + 1]
        | none => [env.site d]
      | none => [env.site d]
    | none => []) := fun _ _ _ _ => rfl
theorem atgE2 : ∀ (env : Env) (dst : Option Nat) (ev : Operand → AVal), ∀ z1 z2, atgt env dst ev (.box z1 z2) = (match dst with | some d => [env.site d] | none => []) := fun _ _ _ _ _ => rfl
theorem atgE3 : ∀ (env : Env) (dst : Option Nat) (ev : Operand → AVal), ∀ t z1 parts, atgt env dst ev (.buildSlice t z1 parts) = (match env.ty t with
    | some ty => match arows ty.eSize 0 (parts.toList.map fun q => (q.1, ev q.2)) with
      | some _ => []
      | none => match dst with | some d => [env.site d] | none => []
    | none => []) := fun _ _ _ _ _ _ => rfl
theorem atgE4 : ∀ (env : Env) (dst : Option Nat) (ev : Operand → AVal), ∀ z1 p, atgt env dst ev (.load z1 p) = (match ev p with | .ref id _ => [id] | .eref id _ _ _ => [id] | _ => []) := fun _ _ _ _ _ => rfl
theorem atgE5 : ∀ (env : Env) (dst : Option Nat) (ev : Operand → AVal), ∀ z1 p z2, atgt env dst ev (.store z1 p z2) = (match ev p with | .ref id _ => [id] | .eref id _ _ _ => [id] | _ => []) := fun _ _ _ _ _ _ => rfl
theorem atgE6 : ∀ (env : Env) (dst : Option Nat) (ev : Operand → AVal), ∀ z1 x z2, atgt env dst ev (.indexAddr z1 x z2) = (match ev x with | .row id _ => [id] | _ => []) := fun _ _ _ _ _ _ => rfl
theorem atgE7 : ∀ (env : Env) (dst : Option Nat) (ev : Operand → AVal), ∀ z1 z2 x, atgt env dst ev (.convert z1 z2 x) = (match ev x with | .row id _ => [id] | _ => []) := fun _ _ _ _ _ _ => rfl
theorem atgE8 : ∀ (env : Env) (dst : Option Nat) (ev : Operand → AVal), ∀ z1, atgt env dst ev (.makeMap z1 none) = (match dst with | some d => [env.site d] | none => []) := fun _ _ _ _ => rfl
theorem atgE9 : ∀ (env : Env) (dst : Option Nat) (ev : Operand → AVal), ∀ z1 z2 z3, atgt env dst ev (.makeSlice z1 z2 z3) = (match dst with | some d => [env.site d] | none => []) := fun _ _ _ _ _ _ => rfl
theorem atgE10 : ∀ (env : Env) (dst : Option Nat) (ev : Operand → AVal), ∀ z1 x z2 z3, atgt env dst ev (.lookup z1 x z2 z3) = (match ev x with | .map id => [id] | _ => []) := fun _ _ _ _ _ _ _ => rfl
theorem atgE11 : ∀ (env : Env) (dst : Option Nat) (ev : Operand → AVal), ∀ z1 m z2 z3, atgt env dst ev (.mapUpdate z1 m z2 z3) = (match ev m with | .map id => [id] | _ => []) := fun _ _ _ _ _ _ _ => rfl
theorem atgE12 : ∀ (env : Env) (dst : Option Nat) (ev : Operand → AVal), ∀ args z1, atgt env dst ev (.call ⟨.builtin .append, args, z1⟩) = (match args.toList with
    | [x, y] => (match dst with | some d => [env.site d] | none => []) ++ (match ev x with | .row id _ => [id] | _ => []) ++ (match ev y with | .row id _ => [id] | _ => [])
    | _ => []) := fun _ _ _ _ _ => rfl
theorem atgE13 : ∀ (env : Env) (dst : Option Nat) (ev : Operand → AVal), ∀ x, atgt env dst ev (.move x) = [] := fun _ _ _ _ => rfl
theorem atgE14 : ∀ (env : Env) (dst : Option Nat) (ev : Operand → AVal), ∀ x, atgt env dst ev (.assign x) = [] := fun _ _ _ _ => rfl
theorem atgE15 : ∀ (env : Env) (dst : Option Nat) (ev : Operand → AVal), ∀ c a b, atgt env dst ev (.pick c a b) = [] := fun _ _ _ _ _ _ => rfl
theorem atgE16 : ∀ (env : Env) (dst : Option Nat) (ev : Operand → AVal), ∀ t parts, atgt env dst ev (.build t parts) = [] := fun _ _ _ _ _ => rfl
theorem atgE17 : ∀ (env : Env) (dst : Option Nat) (ev : Operand → AVal), ∀ x, atgt env dst ev (.nilCheck x) = [] := fun _ _ _ _ => rfl
theorem atgE18 : ∀ (env : Env) (dst : Option Nat) (ev : Operand → AVal), ∀ op t x y z1, atgt env dst ev (.binOp op t x y z1) = [] := fun _ _ _ _ _ _ _ _ => rfl
theorem atgE19 : ∀ (env : Env) (dst : Option Nat) (ev : Operand → AVal), ∀ op z1 x, atgt env dst ev (.unOp op z1 x) = [] := fun _ _ _ _ _ _ => rfl
theorem atgE20 : ∀ (env : Env) (dst : Option Nat) (ev : Operand → AVal), ∀ s x k, atgt env dst ev (.fieldAddr s x k) = [] := fun _ _ _ _ _ _ => rfl
theorem atgE21 : ∀ (env : Env) (dst : Option Nat) (ev : Operand → AVal), ∀ t x ix, atgt env dst ev (.index t x ix) = [] := fun _ _ _ _ _ _ => rfl
theorem atgE22 : ∀ (env : Env) (dst : Option Nat) (ev : Operand → AVal), ∀ x k, atgt env dst ev (.extract x k) = [] := fun _ _ _ _ _ => rfl
theorem atgE23 : ∀ (env : Env) (dst : Option Nat) (ev : Operand → AVal), ∀ t x lo hi mx, atgt env dst ev (.slice t x lo hi mx) = [] := fun _ _ _ _ _ _ _ _ => rfl
theorem atgE24 : ∀ (env : Env) (dst : Option Nat) (ev : Operand → AVal), ∀ f first cap, atgt env dst ev (.makeFunc (.func f) first cap) = [] := fun _ _ _ _ _ _ => rfl
theorem atgE25 : ∀ (env : Env) (dst : Option Nat) (ev : Operand → AVal), ∀ t x, atgt env dst ev (.makeInterface t x) = [] := fun _ _ _ _ _ => rfl
theorem atgE26 : ∀ (env : Env) (dst : Option Nat) (ev : Operand → AVal), ∀ x z1 t ok, atgt env dst ev (.typeAssert x z1 t ok) = [] := fun _ _ _ _ _ _ _ => rfl
theorem atgE27 : ∀ (env : Env) (dst : Option Nat) (ev : Operand → AVal), ∀ args tys, atgt env dst ev (.call ⟨.builtin .len, args, tys⟩) = [] := fun _ _ _ _ _ => rfl
theorem atgE28 : ∀ (env : Env) (dst : Option Nat) (ev : Operand → AVal), ∀ args z1, atgt env dst ev (.call ⟨.builtin .max, args, z1⟩) = [] := fun _ _ _ _ _ => rfl
theorem atgE29 : ∀ (env : Env) (dst : Option Nat) (ev : Operand → AVal), ∀ args z1, atgt env dst ev (.call ⟨.builtin .min, args, z1⟩) = [] := fun _ _ _ _ _ => rfl
theorem vgE1 : ∀ (K : KT) (tg : Tg K) (gp : Prop) (dd : Option Nat), ∀ x, ∀ (rest : List COp) (acc : Option Tr) (σ : St), VG P env K tg (some gp) dd (.move x) rest acc σ = VX P env K tg gp (aop env dd (aeval env σ) σ.obj (.move x)) (atgt env dd (aeval env σ) (.move x)) dd rest acc σ := fun _ _ _ _ _ _ _ _ => VG_op _ _ _ _ _ ⟨rfl, rfl⟩ _ _ _
theorem vgE2 : ∀ (K : KT) (tg : Tg K) (gp : Prop) (dd : Option Nat), ∀ x, ∀ (rest : List COp) (acc : Option Tr) (σ : St), VG P env K tg (some gp) dd (.assign x) rest acc σ = VX P env K tg gp (aop env dd (aeval env σ) σ.obj (.assign x)) (atgt env dd (aeval env σ) (.assign x)) dd rest acc σ := fun _ _ _ _ _ _ _ _ => VG_op _ _ _ _ _ ⟨rfl, rfl⟩ _ _ _
theorem vgE3 : ∀ (K : KT) (tg : Tg K) (gp : Prop) (dd : Option Nat), ∀ c a b, ∀ (rest : List COp) (acc : Option Tr) (σ : St), VG P env K tg (some gp) dd (.pick c a b) rest acc σ = VX P env K tg gp (aop env dd (aeval env σ) σ.obj (.pick c a b)) (atgt env dd (aeval env σ) (.pick c a b)) dd rest acc σ := fun _ _ _ _ _ _ _ _ _ _ => VG_op _ _ _ _ _ ⟨rfl, rfl⟩ _ _ _
theorem vgE4 : ∀ (K : KT) (tg : Tg K) (gp : Prop) (dd : Option Nat), ∀ t, ∀ (rest : List COp) (acc : Option Tr) (σ : St), VG P env K tg (some gp) dd (.alloc t) rest acc σ = VX P env K tg gp (aop env dd (aeval env σ) σ.obj (.alloc t)) (atgt env dd (aeval env σ) (.alloc t)) dd rest acc σ := fun _ _ _ _ _ _ _ _ => VG_op _ _ _ _ _ ⟨rfl, rfl⟩ _ _ _
theorem vgE5 : ∀ (K : KT) (tg : Tg K) (gp : Prop) (dd : Option Nat), ∀ z1 x, ∀ (rest : List COp) (acc : Option Tr) (σ : St), VG P env K tg (some gp) dd (.box z1 x) rest acc σ = VX P env K tg gp (aop env dd (aeval env σ) σ.obj (.box z1 x)) (atgt env dd (aeval env σ) (.box z1 x)) dd rest acc σ := fun _ _ _ _ _ _ _ _ _ => VG_op _ _ _ _ _ ⟨rfl, rfl⟩ _ _ _
theorem vgE6 : ∀ (K : KT) (tg : Tg K) (gp : Prop) (dd : Option Nat), ∀ t parts, ∀ (rest : List COp) (acc : Option Tr) (σ : St), VG P env K tg (some gp) dd (.build t parts) rest acc σ = VX P env K tg gp (aop env dd (aeval env σ) σ.obj (.build t parts)) (atgt env dd (aeval env σ) (.build t parts)) dd rest acc σ := fun _ _ _ _ _ _ _ _ _ => VG_op _ _ _ _ _ ⟨rfl, rfl⟩ _ _ _
theorem vgE7 : ∀ (K : KT) (tg : Tg K) (gp : Prop) (dd : Option Nat), ∀ t len parts, ∀ (rest : List COp) (acc : Option Tr) (σ : St), VG P env K tg (some gp) dd (.buildSlice t len parts) rest acc σ = VX P env K tg gp (aop env dd (aeval env σ) σ.obj (.buildSlice t len parts)) (atgt env dd (aeval env σ) (.buildSlice t len parts)) dd rest acc σ := fun _ _ _ _ _ _ _ _ _ _ => VG_op _ _ _ _ _ ⟨rfl, rfl⟩ _ _ _
theorem vgE8 : ∀ (K : KT) (tg : Tg K) (gp : Prop) (dd : Option Nat), ∀ t p, ∀ (rest : List COp) (acc : Option Tr) (σ : St), VG P env K tg (some gp) dd (.load t p) rest acc σ = VX P env K tg gp (aop env dd (aeval env σ) σ.obj (.load t p)) (atgt env dd (aeval env σ) (.load t p)) dd rest acc σ := fun _ _ _ _ _ _ _ _ _ => VG_op _ _ _ _ _ ⟨rfl, rfl⟩ _ _ _
theorem vgE9 : ∀ (K : KT) (tg : Tg K) (gp : Prop) (dd : Option Nat), ∀ t p x, ∀ (rest : List COp) (acc : Option Tr) (σ : St), VG P env K tg (some gp) dd (.store t p x) rest acc σ = VX P env K tg gp (aop env dd (aeval env σ) σ.obj (.store t p x)) (atgt env dd (aeval env σ) (.store t p x)) dd rest acc σ := fun _ _ _ _ _ _ _ _ _ _ => VG_op _ _ _ _ _ ⟨rfl, rfl⟩ _ _ _
theorem vgE10 : ∀ (K : KT) (tg : Tg K) (gp : Prop) (dd : Option Nat), ∀ x, ∀ (rest : List COp) (acc : Option Tr) (σ : St), VG P env K tg (some gp) dd (.nilCheck x) rest acc σ = VX P env K tg gp (aop env dd (aeval env σ) σ.obj (.nilCheck x)) (atgt env dd (aeval env σ) (.nilCheck x)) dd rest acc σ := fun _ _ _ _ _ _ _ _ => VG_op _ _ _ _ _ ⟨rfl, rfl⟩ _ _ _
theorem vgE11 : ∀ (K : KT) (tg : Tg K) (gp : Prop) (dd : Option Nat), ∀ op t x y z1, ∀ (rest : List COp) (acc : Option Tr) (σ : St), VG P env K tg (some gp) dd (.binOp op t x y z1) rest acc σ = VX P env K tg gp (aop env dd (aeval env σ) σ.obj (.binOp op t x y z1)) (atgt env dd (aeval env σ) (.binOp op t x y z1)) dd rest acc σ := fun _ _ _ _ _ _ _ _ _ _ _ _ => VG_op _ _ _ _ _ ⟨rfl, rfl⟩ _ _ _
theorem vgE12 : ∀ (K : KT) (tg : Tg K) (gp : Prop) (dd : Option Nat), ∀ op z1 x, ∀ (rest : List COp) (acc : Option Tr) (σ : St), VG P env K tg (some gp) dd (.unOp op z1 x) rest acc σ = VX P env K tg gp (aop env dd (aeval env σ) σ.obj (.unOp op z1 x)) (atgt env dd (aeval env σ) (.unOp op z1 x)) dd rest acc σ := fun _ _ _ _ _ _ _ _ _ _ => VG_op _ _ _ _ _ ⟨rfl, rfl⟩ _ _ _
theorem vgE13 : ∀ (K : KT) (tg : Tg K) (gp : Prop) (dd : Option Nat), ∀ st dt x, ∀ (rest : List COp) (acc : Option Tr) (σ : St), VG P env K tg (some gp) dd (.convert st dt x) rest acc σ = VX P env K tg gp (aop env dd (aeval env σ) σ.obj (.convert st dt x)) (atgt env dd (aeval env σ) (.convert st dt x)) dd rest acc σ := fun _ _ _ _ _ _ _ _ _ _ => VG_op _ _ _ _ _ ⟨rfl, rfl⟩ _ _ _
theorem vgE14 : ∀ (K : KT) (tg : Tg K) (gp : Prop) (dd : Option Nat), ∀ s x k, ∀ (rest : List COp) (acc : Option Tr) (σ : St), VG P env K tg (some gp) dd (.fieldAddr s x k) rest acc σ = VX P env K tg gp (aop env dd (aeval env σ) σ.obj (.fieldAddr s x k)) (atgt env dd (aeval env σ) (.fieldAddr s x k)) dd rest acc σ := fun _ _ _ _ _ _ _ _ _ _ => VG_op _ _ _ _ _ ⟨rfl, rfl⟩ _ _ _
theorem vgE15 : ∀ (K : KT) (tg : Tg K) (gp : Prop) (dd : Option Nat), ∀ t x ix, ∀ (rest : List COp) (acc : Option Tr) (σ : St), VG P env K tg (some gp) dd (.indexAddr t x ix) rest acc σ = VX P env K tg gp (aop env dd (aeval env σ) σ.obj (.indexAddr t x ix)) (atgt env dd (aeval env σ) (.indexAddr t x ix)) dd rest acc σ := fun _ _ _ _ _ _ _ _ _ _ => VG_op _ _ _ _ _ ⟨rfl, rfl⟩ _ _ _
theorem vgE16 : ∀ (K : KT) (tg : Tg K) (gp : Prop) (dd : Option Nat), ∀ t x ix, ∀ (rest : List COp) (acc : Option Tr) (σ : St), VG P env K tg (some gp) dd (.index t x ix) rest acc σ = VX P env K tg gp (aop env dd (aeval env σ) σ.obj (.index t x ix)) (atgt env dd (aeval env σ) (.index t x ix)) dd rest acc σ := fun _ _ _ _ _ _ _ _ _ _ => VG_op _ _ _ _ _ ⟨rfl, rfl⟩ _ _ _
theorem vgE17 : ∀ (K : KT) (tg : Tg K) (gp : Prop) (dd : Option Nat), ∀ x k, ∀ (rest : List COp) (acc : Option Tr) (σ : St), VG P env K tg (some gp) dd (.extract x k) rest acc σ = VX P env K tg gp (aop env dd (aeval env σ) σ.obj (.extract x k)) (atgt env dd (aeval env σ) (.extract x k)) dd rest acc σ := fun _ _ _ _ _ _ _ _ _ => VG_op _ _ _ _ _ ⟨rfl, rfl⟩ _ _ _
theorem vgE18 : ∀ (K : KT) (tg : Tg K) (gp : Prop) (dd : Option Nat), ∀ t x lo hi mx, ∀ (rest : List COp) (acc : Option Tr) (σ : St), VG P env K tg (some gp) dd (.slice t x lo hi mx) rest acc σ = VX P env K tg gp (aop env dd (aeval env σ) σ.obj (.slice t x lo hi mx)) (atgt env dd (aeval env σ) (.slice t x lo hi mx)) dd rest acc σ := fun _ _ _ _ _ _ _ _ _ _ _ _ => VG_op _ _ _ _ _ ⟨rfl, rfl⟩ _ _ _
theorem vgE19 : ∀ (K : KT) (tg : Tg K) (gp : Prop) (dd : Option Nat), ∀ f first cap, ∀ (rest : List COp) (acc : Option Tr) (σ : St), VG P env K tg (some gp) dd (.makeFunc (.func f) first cap) rest acc σ = VX P env K tg gp (aop env dd (aeval env σ) σ.obj (.makeFunc (.func f) first cap)) (atgt env dd (aeval env σ) (.makeFunc (.func f) first cap)) dd rest acc σ := fun _ _ _ _ _ _ _ _ _ _ => VG_op _ _ _ _ _ ⟨rfl, rfl⟩ _ _ _
theorem vgE20 : ∀ (K : KT) (tg : Tg K) (gp : Prop) (dd : Option Nat), ∀ t x, ∀ (rest : List COp) (acc : Option Tr) (σ : St), VG P env K tg (some gp) dd (.makeInterface t x) rest acc σ = VX P env K tg gp (aop env dd (aeval env σ) σ.obj (.makeInterface t x)) (atgt env dd (aeval env σ) (.makeInterface t x)) dd rest acc σ := fun _ _ _ _ _ _ _ _ _ => VG_op _ _ _ _ _ ⟨rfl, rfl⟩ _ _ _
theorem vgE21 : ∀ (K : KT) (tg : Tg K) (gp : Prop) (dd : Option Nat), ∀ x z1 t ok, ∀ (rest : List COp) (acc : Option Tr) (σ : St), VG P env K tg (some gp) dd (.typeAssert x z1 t ok) rest acc σ = VX P env K tg gp (aop env dd (aeval env σ) σ.obj (.typeAssert x z1 t ok)) (atgt env dd (aeval env σ) (.typeAssert x z1 t ok)) dd rest acc σ := fun _ _ _ _ _ _ _ _ _ _ _ => VG_op _ _ _ _ _ ⟨rfl, rfl⟩ _ _ _
theorem vgE22 : ∀ (K : KT) (tg : Tg K) (gp : Prop) (dd : Option Nat), ∀ t, ∀ (rest : List COp) (acc : Option Tr) (σ : St), VG P env K tg (some gp) dd (.makeMap t none) rest acc σ = VX P env K tg gp (aop env dd (aeval env σ) σ.obj (.makeMap t none)) (atgt env dd (aeval env σ) (.makeMap t none)) dd rest acc σ := fun _ _ _ _ _ _ _ _ => VG_op _ _ _ _ _ ⟨rfl, rfl⟩ _ _ _
theorem vgE23 : ∀ (K : KT) (tg : Tg K) (gp : Prop) (dd : Option Nat), ∀ t len cap, ∀ (rest : List COp) (acc : Option Tr) (σ : St), VG P env K tg (some gp) dd (.makeSlice t len cap) rest acc σ = VX P env K tg gp (aop env dd (aeval env σ) σ.obj (.makeSlice t len cap)) (atgt env dd (aeval env σ) (.makeSlice t len cap)) dd rest acc σ := fun _ _ _ _ _ _ _ _ _ _ => VG_op _ _ _ _ _ ⟨rfl, rfl⟩ _ _ _
theorem vgE24 : ∀ (K : KT) (tg : Tg K) (gp : Prop) (dd : Option Nat), ∀ t x k ok, ∀ (rest : List COp) (acc : Option Tr) (σ : St), VG P env K tg (some gp) dd (.lookup t x k ok) rest acc σ = VX P env K tg gp (aop env dd (aeval env σ) σ.obj (.lookup t x k ok)) (atgt env dd (aeval env σ) (.lookup t x k ok)) dd rest acc σ := fun _ _ _ _ _ _ _ _ _ _ _ => VG_op _ _ _ _ _ ⟨rfl, rfl⟩ _ _ _
theorem vgE25 : ∀ (K : KT) (tg : Tg K) (gp : Prop) (dd : Option Nat), ∀ t m k x, ∀ (rest : List COp) (acc : Option Tr) (σ : St), VG P env K tg (some gp) dd (.mapUpdate t m k x) rest acc σ = VX P env K tg gp (aop env dd (aeval env σ) σ.obj (.mapUpdate t m k x)) (atgt env dd (aeval env σ) (.mapUpdate t m k x)) dd rest acc σ := fun _ _ _ _ _ _ _ _ _ _ _ => VG_op _ _ _ _ _ ⟨rfl, rfl⟩ _ _ _
theorem vgE26 : ∀ (K : KT) (tg : Tg K) (gp : Prop) (dd : Option Nat), ∀ args tys, ∀ (rest : List COp) (acc : Option Tr) (σ : St), VG P env K tg (some gp) dd (.call ⟨.builtin .len, args, tys⟩) rest acc σ = VX P env K tg gp (aop env dd (aeval env σ) σ.obj (.call ⟨.builtin .len, args, tys⟩)) (atgt env dd (aeval env σ) (.call ⟨.builtin .len, args, tys⟩)) dd rest acc σ := fun _ _ _ _ _ _ _ _ _ => VG_op _ _ _ _ _ ⟨rfl, rfl⟩ _ _ _
theorem vgE27 : ∀ (K : KT) (tg : Tg K) (gp : Prop) (dd : Option Nat), ∀ args z1, ∀ (rest : List COp) (acc : Option Tr) (σ : St), VG P env K tg (some gp) dd (.call ⟨.builtin .max, args, z1⟩) rest acc σ = VX P env K tg gp (aop env dd (aeval env σ) σ.obj (.call ⟨.builtin .max, args, z1⟩)) (atgt env dd (aeval env σ) (.call ⟨.builtin .max, args, z1⟩)) dd rest acc σ := fun _ _ _ _ _ _ _ _ _ => VG_op _ _ _ _ _ ⟨rfl, rfl⟩ _ _ _
theorem vgE28 : ∀ (K : KT) (tg : Tg K) (gp : Prop) (dd : Option Nat), ∀ args z1, ∀ (rest : List COp) (acc : Option Tr) (σ : St), VG P env K tg (some gp) dd (.call ⟨.builtin .min, args, z1⟩) rest acc σ = VX P env K tg gp (aop env dd (aeval env σ) σ.obj (.call ⟨.builtin .min, args, z1⟩)) (atgt env dd (aeval env σ) (.call ⟨.builtin .min, args, z1⟩)) dd rest acc σ := fun _ _ _ _ _ _ _ _ _ => VG_op _ _ _ _ _ ⟨rfl, rfl⟩ _ _ _
theorem vgE29 : ∀ (K : KT) (tg : Tg K) (gp : Prop) (dd : Option Nat), ∀ args tys, ∀ (rest : List COp) (acc : Option Tr) (σ : St), VG P env K tg (some gp) dd (.call ⟨.builtin .append, args, tys⟩) rest acc σ = VX P env K tg gp (aop env dd (aeval env σ) σ.obj (.call ⟨.builtin .append, args, tys⟩)) (atgt env dd (aeval env σ) (.call ⟨.builtin .append, args, tys⟩)) dd rest acc σ := fun _ _ _ _ _ _ _ _ _ => VG_op _ _ _ _ _ ⟨rfl, rfl⟩ _ _ _
theorem panV_one : ∀ (t : Nat) (k : IntKind) (n : Int), panV (.pv (.ifc t true [.int k n])) = some (.iface t (.agg #[.int k n])) := fun _ _ _ => rfl
theorem panV_nil : ∀ (t : Nat), panV (.pv (.ifc t true [])) = some (.iface t (.agg #[])) := fun _ => rfl
theorem cells_clo : ∀ (f : Nat) (cs : List AVal), AVal.cells (.clo f cs) = [.clo f cs] := fun _ _ => rfl
theorem isC_clo : ∀ (f : Nat) (cs : List AVal), AVal.isCell (.clo f cs) = true := fun _ _ => rfl
theorem anil_ie : ∀ (t : Nat) (ag : Bool) (cs : List PVal), anil .eql (some .iface) (.ifc t ag cs) = some (.bool false) := fun _ _ _ => rfl
theorem anil_in : ∀ (t : Nat) (ag : Bool) (cs : List PVal), anil .neq (some .iface) (.ifc t ag cs) = some (.bool true) := fun _ _ _ => rfl
theorem aeval_tmp : ∀ (sl : List AVal) (ob : List (Option AObj)) (i : Nat), aeval env ⟨sl, ob⟩ (.tmp i) = sl.getD i .junk := fun _ _ _ => rfl
theorem aeval_int : ∀ (k : IntKind) (n : Int), aeval env σ (.const (.int k n)) = .pv (.int k n) := fun _ _ => rfl
theorem aeval_bool : ∀ (b : Bool), aeval env σ (.const (.bool b)) = .pv (.bool b) := fun _ => rfl
theorem aeval_str : ∀ (l : List UInt8), aeval env σ (.const (.string ⟨l.toArray⟩)) = .pv (.str l) := fun _ => rfl
theorem aeval_snil : aeval env σ (.const (.slice none 0 0)) = .snil := rfl
theorem aeval_nptr : aeval env σ (.const (.pointer none)) = .pv .nilptr := rfl
theorem aeval_nmap : aeval env σ (.const (.map none)) = .pv .nilmap := rfl
theorem aeval_agg : ∀ (l : List Value), aeval env σ (.const (.agg l.toArray)) = .agg (l.map absCell) := fun _ => rfl
theorem absC_int : ∀ (k : IntKind) (n : Int), absCell (.int k n) = .pv (.int k n) := fun _ _ => rfl
theorem absC_bool : ∀ (b : Bool), absCell (.bool b) = .pv (.bool b) := fun _ => rfl
theorem absC_str : ∀ (l : List UInt8), absCell (.string ⟨l.toArray⟩) = .pv (.str l) := fun _ => rfl
theorem absC_snil : absCell (.slice none 0 0) = .snil := rfl
theorem absC_nptr : absCell (.pointer none) = .pv .nilptr := rfl
theorem absC_nmap : absCell (.map none) = .pv .nilmap := rfl
theorem aeval_glob : ∀ (b : Nat), aeval env σ (.global b) = (match env.gl b with | some cs => .pv (.ptr cs) | none => .junk) := fun _ => rfl
theorem obj_lit : ∀ (sl : List AVal) (ob : List (Option AObj)) (i : Nat), St.obj ⟨sl, ob⟩ i = ob.getD i none := fun _ _ _ => rfl
theorem slot_lit : ∀ (sl : List AVal) (ob : List (Option AObj)) (i : Nat), St.slot ⟨sl, ob⟩ i = sl.getD i .junk := fun _ _ _ => rfl
theorem app_none : ∀ (σ : St) (d : Nat) (v : AVal), σ.app (some d) ⟨v, []⟩ = ⟨σ.slots.set d v, σ.objs⟩ := fun _ _ _ => rfl
theorem app_nn : ∀ (σ : St) (v : AVal), σ.app none ⟨v, []⟩ = ⟨σ.slots, σ.objs⟩ := fun _ _ => rfl
theorem app_upd : ∀ (σ : St) (d : Nat) (v : AVal) (q : Nat × AObj) (r : List (Nat × AObj)), σ.app (some d) ⟨v, q :: r⟩ = (⟨σ.slots, σ.objs.set q.1 (some q.2)⟩ : St).app (some d) ⟨v, r⟩ := fun _ _ _ _ _ => rfl
theorem app_updn : ∀ (σ : St) (v : AVal) (q : Nat × AObj) (r : List (Nat × AObj)), σ.app none ⟨v, q :: r⟩ = (⟨σ.slots, σ.objs.set q.1 (some q.2)⟩ : St).app none ⟨v, r⟩ := fun _ _ _ _ => rfl
theorem gd_none : gd σ none = some True := rfl
theorem gd_some : ∀ (i : Nat) (w : Bool), gd σ (some (some (i, w))) = gw (σ.slot i) w := fun _ _ => rfl
theorem cells_agg : ∀ (cs : List AVal), AVal.cells (.agg cs) = cs := fun _ => rfl
theorem cells_pv : ∀ (p : PVal), AVal.cells (.pv p) = [.pv p] := fun _ => rfl
theorem cells_snil : AVal.cells .snil = [.snil] := rfl
theorem cells_ref : ∀ (i o : Nat), AVal.cells (.ref i o) = [.ref i o] := fun _ _ => rfl
theorem cells_row : ∀ (i o : Nat), AVal.cells (.row i o) = [.row i o] := fun _ _ => rfl
theorem cells_map : ∀ (i : Nat), AVal.cells (.map i) = [.map i] := fun _ => rfl
theorem isC_pv : ∀ (p : PVal), AVal.isCell (.pv p) = true := fun _ => rfl
theorem isC_snil : AVal.isCell .snil = true := rfl
theorem isC_ref : ∀ (i o : Nat), AVal.isCell (.ref i o) = true := fun _ _ => rfl
theorem isC_row : ∀ (i o : Nat), AVal.isCell (.row i o) = true := fun _ _ => rfl
theorem isC_map : ∀ (i : Nat), AVal.isCell (.map i) = true := fun _ => rfl
theorem toPs_nil : toPs [] = some [] := rfl
theorem toPs_pv : ∀ (p : PVal) (r : List AVal), toPs (.pv p :: r) = (toPs r).map (p :: ·) := fun p r => by simp only [toPs, AVal.toP]; cases toPs r <;> rfl
theorem toPs_snil : ∀ (r : List AVal), toPs (.snil :: r) = (toPs r).map (.slice [] :: ·) := fun r => by simp only [toPs, AVal.toP]; cases toPs r <;> rfl
theorem toPs_ref : ∀ (i o : Nat) (r : List AVal), toPs (.ref i o :: r) = none := fun _ _ r => by simp only [toPs, AVal.toP]
theorem toPs_eref : ∀ (i o j z : Nat) (r : List AVal), toPs (.eref i o j z :: r) = none := fun _ _ _ _ r => by simp only [toPs, AVal.toP]
theorem acells_nil : ∀ (sz k : Nat), acells sz k [] = some [] := fun _ _ => rfl
theorem acells_cons : ∀ (sz k i : Nat) (v : AVal) (r : List (Nat × AVal)), acells sz k ((i, v) :: r) = (if i = k ∧ v.cells.length = sz ∧ v.cells.all AVal.isCell = true then (acells sz (k + 1) r).map (v.cells ++ ·) else none) := fun _ _ _ _ _ => rfl
theorem arows_nil : ∀ (sz k : Nat), arows sz k [] = some [] := fun _ _ => rfl
theorem arows_cons : ∀ (sz k i : Nat) (v : AVal) (r : List (Nat × AVal)), arows sz k ((i, v) :: r) = (if i = k ∧ v.cells.length = sz then (match toPs v.cells, arows sz (k + 1) r with | some ps, some r => some (ps :: r) | _, _ => none) else none) := fun _ _ _ _ _ => rfl
theorem afill_nil : ∀ (pl : Nat → Option (Nat × Nat)) (cs : List AVal), afill pl cs [] = some cs := fun _ _ => rfl
theorem afill_cons : ∀ (pl : Nat → Option (Nat × Nat)) (cs : List AVal) (i : Nat) (v : AVal) (r : List (Nat × AVal)), afill pl cs ((i, v) :: r) = (match pl i with | none => none | some (off, size) => if v.cells.length = size ∧ off + size ≤ cs.length ∧ v.cells.all AVal.isCell = true then afill pl (splice cs off v.cells) r else none) := fun _ _ _ _ _ => rfl
theorem splice_e : ∀ (cs : List AVal) (off : Nat) (v : List AVal), splice cs off v = cs.take off ++ v ++ cs.drop (off + v.length) := fun _ _ _ => rfl
theorem src_snil : ∀ (ob : Nat → Option AObj), srcRows ob .snil = some [] := fun _ => rfl
theorem src_pv : ∀ (ob : Nat → Option AObj) (xs : List (List PVal)), srcRows ob (.pv (.slice xs)) = some xs := fun _ _ => rfl
theorem src_str : ∀ (ob : Nat → Option AObj) (s : List UInt8), srcRows ob (.pv (.str s)) = some (s.map bRow) := fun _ _ => rfl
theorem srcKd_1 : srcKd .slice = true := rfl
theorem srcKd_2 : srcKd .string = true := rfl
theorem all_bRow : ∀ (s : List UInt8), ((s.map bRow).all fun y => y.length == 1) = true := fun s => by simp [bRow]
theorem nums_bRow : ∀ (s : List UInt8), numsOf (s.map bRow) = some (s.map fun c => (c.toNat : Int)) := fun s => by induction s with | nil => rfl | cons c r ih => simp only [List.map_cons, bRow, numsOf] at *; rw [ih]; rfl
theorem strOf_map : ∀ (s : List UInt8), strOf (s.map fun c => (c.toNat : Int)) = s := fun s => by induction s with | nil => rfl | cons c r ih => simp only [strOf, List.map_cons] at *; rw [ih]; simp
theorem src_row : ∀ (ob : Nat → Option AObj) (id n : Nat), srcRows ob (.row id n) = (match ob id with | some (.row _ xs) => if xs.length = n then some xs else none | _ => none) := fun _ _ _ => rfl
theorem bnd_none : ∀ (ev : Operand → AVal) (n : Nat), abound ev none n = some (n : Int) := fun _ _ => rfl
theorem bnd_some : ∀ (ev : Operand → AVal) (q : Operand) (n : Nat), abound ev (some q) n = (match ev q with | .pv (.int _ i) => some i | _ => none) := fun _ _ _ => rfl
theorem fold_nil : ∀ (f : PVal → PVal → Option PVal) (p : PVal), afold f p [] = some p := fun _ _ => rfl
theorem fold_cons : ∀ (f : PVal → PVal → Option PVal) (p q : PVal) (r : List AVal), afold f p (.pv q :: r) = (match f p q with | some x => afold f x r | none => none) := fun _ _ _ _ => rfl
theorem amax_e : ∀ (k k2 : IntKind) (x y : Int), amax (.int k x) (.int k2 y) = some (.int k (imax x y)) := fun _ _ _ _ => rfl
theorem amin_e : ∀ (k k2 : IntKind) (x y : Int), amin (.int k x) (.int k2 y) = some (.int k (imin x y)) := fun _ _ _ _ => rfl
theorem comp_nil : ∀ (l : List Oper), compL l [] = [] := fun _ => rfl
theorem comp_cons : ∀ (l : List Oper) (d : Option Nat) (op : Op) (ty : TypeId) (ps : String) (af : Array Edge) (g : Option (Nat × Bool)) (r : List Oper), compL l (⟨d, op, ty, ps, af, g⟩ :: r) = ⟨d, op, gres l g⟩ :: compL l r := fun _ _ _ _ _ _ _ _ => rfl
theorem gres_none : ∀ (l : List Oper), gres l none = none := fun _ => rfl
theorem gres_some : ∀ (l : List Oper) (j : Nat) (w : Bool), gres l (some (j, w)) = some (((l[j]?).bind (·.dst)).map fun t => (t, w)) := fun _ _ _ => rfl
theorem ares_nil : ares env σ [] = some [] := rfl
theorem ares_tmp : ∀ (i : Nat) (r : List ResultVar), ares env σ (.tmp i :: r) = (ares env σ r).map (σ.slot i :: ·) := fun i r => by simp only [ares, aresOne]; cases ares env σ r <;> rfl
theorem ares_cell : ∀ (i t : Nat) (r : List ResultVar), ares env σ (.cell i t :: r) = (match aresOne env σ (.cell i t), ares env σ r with | some v, some vs => some (v :: vs) | _, _ => none) := fun _ _ _ => rfl
theorem aresO_cell : ∀ (i t : Nat), aresOne env σ (.cell i t) = (match env.ty t, σ.slot i with | some ty, .ref id off => (match σ.obj id with | some (.cells cs) => if off + ty.size ≤ cs.length ∧ 0 < ty.size then some (if ty.agg then .agg ((cs.drop off).take ty.size) else cs.getD off .junk) else none | _ => none) | _, _ => none) := fun _ _ => rfl
theorem pack_one : ∀ (v : AVal), pack [v] = v := fun _ => rfl
theorem pack_nil : pack [] = .tup [] := rfl
theorem pack_two : ∀ (a b : AVal) (r : List AVal), pack (a :: b :: r) = .tup (a :: b :: r) := fun _ _ _ => rfl
theorem toMV_agg : ∀ (cs : List AVal), toMV (.agg cs) = (toPs cs).map fun ps => (true, ps) := fun _ => rfl
theorem nilC_tmp : ∀ (i : Nat), isNilC (.tmp i) = false := fun _ => rfl
theorem nilC_int : ∀ (k : IntKind) (n : Int), isNilC (.const (.int k n)) = false := fun _ _ => rfl
theorem nilC_bool : ∀ (b : Bool), isNilC (.const (.bool b)) = false := fun _ => rfl
theorem nilC_str : ∀ (s : ByteArray), isNilC (.const (.string s)) = false := fun _ => rfl
theorem nilC_nil : isNilC (.const .nilIface) = true := rfl
theorem anil_eq : ∀ (b : Bool), anil .eql (some .iface) (.err b) = some (.bool b) := fun _ => rfl
theorem anil_ne : ∀ (b : Bool), anil .neq (some .iface) (.err b) = some (.bool (!b)) := fun _ => rfl
theorem aeval_nili : aeval env σ (.const .nilIface) = .pv (.err true) := rfl
theorem absC_nili : absCell .nilIface = .pv (.err true) := rfl
theorem nums_nil : numsOf [] = some [] := rfl
theorem nums_cons : ∀ (n : Int) (r : List (List PVal)), numsOf ([.int .u8 n] :: r) = (numsOf r).map (n :: ·) := fun _ _ => rfl
theorem mval_t : ∀ (l : List PVal), mval (true, l) = .agg (l.map .pv) := fun _ => rfl
theorem mval_f : ∀ (l : List PVal), mval (false, l) = .pv (l.getD 0 .nilptr) := fun _ => rfl
theorem toMV_pv : ∀ (p : PVal), toMV (.pv p) = some (false, [p]) := fun _ => rfl
theorem aeqE_nil : aeqL [] [] [] = some true := rfl
theorem aeqE_cons : ∀ (k : Kd) (ks : List Kd) (c d : AVal) (cs ds : List AVal), aeqL (k :: ks) (c :: cs) (d :: ds) = (match aeqC k c d, aeqL ks cs ds with | some a, some b => some (a && b) | _, _ => none) := fun _ _ _ _ _ _ => rfl
theorem aeqE_int : ∀ (k : IntKind) (a b : Int), aeqC (.int k) (.pv (.int k a)) (.pv (.int k b)) = some (a == b) := fun _ _ _ => by simp [aeqC]
theorem aeqE_bool : ∀ (a b : Bool), aeqC .bool (.pv (.bool a)) (.pv (.bool b)) = some (a == b) := fun _ _ => rfl
theorem aeqE_str : ∀ (a b : List UInt8), aeqC .string (.pv (.str a)) (.pv (.str b)) = some (a == b) := fun _ _ => rfl
theorem aeqE_eq : ∀ (ks : List Kd) (cs ds : List AVal), aeqS .eql (some ks) cs ds = aeqL ks cs ds := fun _ _ _ => rfl
theorem aeqE_ne : ∀ (ks : List Kd) (cs ds : List AVal), aeqS .neq (some ks) cs ds = (aeqL ks cs ds).map (!·) := fun _ _ _ => rfl
theorem abinE1 : ∀ (kd : Option Kd) (k : IntKind) (a b : Int), abin .add kd (.int k a) (.int k b) = some (.int k (k.wrap (a + b))) := fun _ _ _ _ => by simp [abin]
theorem abinE2 : ∀ (kd : Option Kd) (k : IntKind) (a b : Int), abin .sub kd (.int k a) (.int k b) = some (.int k (k.wrap (a - b))) := fun _ _ _ _ => by simp [abin]
theorem abinE3 : ∀ (kd : Option Kd) (k : IntKind) (a b : Int), abin .mul kd (.int k a) (.int k b) = some (.int k (k.wrap (a * b))) := fun _ _ _ _ => by simp [abin]
theorem abinE4 : ∀ (kd : Option Kd) (k : IntKind) (a b : Int), abin .quo kd (.int k a) (.int k b) = if b = 0 then none else some (.int k (k.wrap (a.tdiv b))) := fun _ _ _ _ => by simp [abin]
theorem abinE5 : ∀ (kd : Option Kd) (k : IntKind) (a b : Int), abin .rem kd (.int k a) (.int k b) = if b = 0 then none else some (.int k (a.tmod b)) := fun _ _ _ _ => by simp [abin]
theorem abinE6 : ∀ (kd : Option Kd) (k : IntKind) (a b : Int), abin .eql kd (.int k a) (.int k b) = some (.bool (a == b)) := fun _ _ _ _ => by simp [abin]
theorem abinE7 : ∀ (kd : Option Kd) (k : IntKind) (a b : Int), abin .neq kd (.int k a) (.int k b) = some (.bool (a != b)) := fun _ _ _ _ => by simp [abin]
theorem abinE8 : ∀ (kd : Option Kd) (k : IntKind) (a b : Int), abin .lss kd (.int k a) (.int k b) = some (.bool (decide (a < b))) := fun _ _ _ _ => by simp [abin]
theorem abinE9 : ∀ (kd : Option Kd) (k : IntKind) (a b : Int), abin .leq kd (.int k a) (.int k b) = some (.bool (decide (a ≤ b))) := fun _ _ _ _ => by simp [abin]
theorem abinE10 : ∀ (kd : Option Kd) (k : IntKind) (a b : Int), abin .gtr kd (.int k a) (.int k b) = some (.bool (decide (a > b))) := fun _ _ _ _ => by simp [abin]
theorem abinE11 : ∀ (kd : Option Kd) (k : IntKind) (a b : Int), abin .geq kd (.int k a) (.int k b) = some (.bool (decide (a ≥ b))) := fun _ _ _ _ => by simp [abin]
theorem abinE12 : ∀ (kd : Option Kd) (a b : List UInt8), abin .eql kd (.str a) (.str b) = some (.bool (a == b)) := fun _ _ _ => rfl
theorem abinE13 : ∀ (kd : Option Kd) (a b : List UInt8), abin .neq kd (.str a) (.str b) = some (.bool (!(a == b))) := fun _ _ _ => rfl
theorem abinE14 : ∀ (kd : Option Kd) (a b : List UInt8), abin .add kd (.str a) (.str b) = if a.length + b.length ≤ 4611686018427387904 then some (.str (a ++ b)) else none := fun _ _ _ => rfl
theorem abinE15 : ∀ (a b : Bool), abin .eql (some .bool) (.bool a) (.bool b) = some (.bool (a == b)) := fun _ _ => rfl
theorem abinE16 : ∀ (a b : Bool), abin .neq (some .bool) (.bool a) (.bool b) = some (.bool (!(a == b))) := fun _ _ => rfl
theorem get0 : ∀ {α : Type} (a0 : α) (l : List α) (x : α), (a0 :: l).getD 0 x = a0 := fun _ _ _ => rfl
theorem set0 : ∀ {α : Type} (a0 : α) (l : List α) (x : α), (a0 :: l).set 0 x = x :: l := fun _ _ _ => rfl
theorem get1 : ∀ {α : Type} (a0 a1 : α) (l : List α) (x : α), (a0 :: a1 :: l).getD 1 x = a1 := fun _ _ _ _ => rfl
theorem set1 : ∀ {α : Type} (a0 a1 : α) (l : List α) (x : α), (a0 :: a1 :: l).set 1 x = a0 :: x :: l := fun _ _ _ _ => rfl
theorem get2 : ∀ {α : Type} (a0 a1 a2 : α) (l : List α) (x : α), (a0 :: a1 :: a2 :: l).getD 2 x = a2 := fun _ _ _ _ _ => rfl
theorem set2 : ∀ {α : Type} (a0 a1 a2 : α) (l : List α) (x : α), (a0 :: a1 :: a2 :: l).set 2 x = a0 :: a1 :: x :: l := fun _ _ _ _ _ => rfl
theorem get3 : ∀ {α : Type} (a0 a1 a2 a3 : α) (l : List α) (x : α), (a0 :: a1 :: a2 :: a3 :: l).getD 3 x = a3 := fun _ _ _ _ _ _ => rfl
theorem set3 : ∀ {α : Type} (a0 a1 a2 a3 : α) (l : List α) (x : α), (a0 :: a1 :: a2 :: a3 :: l).set 3 x = a0 :: a1 :: a2 :: x :: l := fun _ _ _ _ _ _ => rfl
theorem get4 : ∀ {α : Type} (a0 a1 a2 a3 a4 : α) (l : List α) (x : α), (a0 :: a1 :: a2 :: a3 :: a4 :: l).getD 4 x = a4 := fun _ _ _ _ _ _ _ => rfl
theorem set4 : ∀ {α : Type} (a0 a1 a2 a3 a4 : α) (l : List α) (x : α), (a0 :: a1 :: a2 :: a3 :: a4 :: l).set 4 x = a0 :: a1 :: a2 :: a3 :: x :: l := fun _ _ _ _ _ _ _ => rfl
theorem get5 : ∀ {α : Type} (a0 a1 a2 a3 a4 a5 : α) (l : List α) (x : α), (a0 :: a1 :: a2 :: a3 :: a4 :: a5 :: l).getD 5 x = a5 := fun _ _ _ _ _ _ _ _ => rfl
theorem set5 : ∀ {α : Type} (a0 a1 a2 a3 a4 a5 : α) (l : List α) (x : α), (a0 :: a1 :: a2 :: a3 :: a4 :: a5 :: l).set 5 x = a0 :: a1 :: a2 :: a3 :: a4 :: x :: l := fun _ _ _ _ _ _ _ _ => rfl
theorem get6 : ∀ {α : Type} (a0 a1 a2 a3 a4 a5 a6 : α) (l : List α) (x : α), (a0 :: a1 :: a2 :: a3 :: a4 :: a5 :: a6 :: l).getD 6 x = a6 := fun _ _ _ _ _ _ _ _ _ => rfl
theorem set6 : ∀ {α : Type} (a0 a1 a2 a3 a4 a5 a6 : α) (l : List α) (x : α), (a0 :: a1 :: a2 :: a3 :: a4 :: a5 :: a6 :: l).set 6 x = a0 :: a1 :: a2 :: a3 :: a4 :: a5 :: x :: l := fun _ _ _ _ _ _ _ _ _ => rfl
theorem get7 : ∀ {α : Type} (a0 a1 a2 a3 a4 a5 a6 a7 : α) (l : List α) (x : α), (a0 :: a1 :: a2 :: a3 :: a4 :: a5 :: a6 :: a7 :: l).getD 7 x = a7 := fun _ _ _ _ _ _ _ _ _ _ => rfl
theorem set7 : ∀ {α : Type} (a0 a1 a2 a3 a4 a5 a6 a7 : α) (l : List α) (x : α), (a0 :: a1 :: a2 :: a3 :: a4 :: a5 :: a6 :: a7 :: l).set 7 x = a0 :: a1 :: a2 :: a3 :: a4 :: a5 :: a6 :: x :: l := fun _ _ _ _ _ _ _ _ _ _ => rfl
theorem getJ : ∀ {α : Type} (a0 a1 a2 a3 a4 a5 a6 a7 : α) (l : List α) (n : Nat) (x : α), (a0 :: a1 :: a2 :: a3 :: a4 :: a5 :: a6 :: a7 :: l).getD (n + 8) x = l.getD n x := fun _ _ _ _ _ _ _ _ _ _ _ => rfl
theorem setJ : ∀ {α : Type} (a0 a1 a2 a3 a4 a5 a6 a7 : α) (l : List α) (n : Nat) (x : α), (a0 :: a1 :: a2 :: a3 :: a4 :: a5 :: a6 :: a7 :: l).set (n + 8) x = a0 :: a1 :: a2 :: a3 :: a4 :: a5 :: a6 :: a7 :: l.set n x := fun _ _ _ _ _ _ _ _ _ _ _ => rfl
def kxA0 := And.intro @aopE1 <| And.intro @aopE2 <| And.intro @aopE3 <| And.intro @aopE4 <| And.intro @aopE5 <| And.intro @aopE6 <| And.intro @aopE7 <| And.intro @aopE8 <| And.intro @aopE9 <| @aopE10
def kxA1 := And.intro @aopE11 <| And.intro @aopE12 <| And.intro @aopE13 <| And.intro @aopE14 <| And.intro @aopE15 <| And.intro @aopE16 <| And.intro @aopE17 <| And.intro @aopE18 <| And.intro @aopE19 <| @aopE20
def kxA2 := And.intro @aopE21 <| And.intro @aopE22 <| And.intro @aopE23 <| And.intro @aopE24 <| And.intro @aopE25 <| And.intro @aopE26 <| And.intro @aopE27 <| And.intro @aopE28 <| And.intro @aopE29 <| @atgE1
def kxA3 := And.intro @atgE2 <| And.intro @atgE3 <| And.intro @atgE4 <| And.intro @atgE5 <| And.intro @atgE6 <| And.intro @atgE7 <| And.intro @atgE8 <| And.intro @atgE9 <| And.intro @atgE10 <| @atgE11
def kxA4 := And.intro @atgE12 <| And.intro @atgE13 <| And.intro @atgE14 <| And.intro @atgE15 <| And.intro @atgE16 <| And.intro @atgE17 <| And.intro @atgE18 <| And.intro @atgE19 <| And.intro @atgE20 <| @atgE21
def kxA5 := And.intro @atgE22 <| And.intro @atgE23 <| And.intro @atgE24 <| And.intro @atgE25 <| And.intro @atgE26 <| And.intro @atgE27 <| And.intro @atgE28 <| @atgE29
def kxB0 := And.intro @vgE1 <| And.intro @vgE2 <| And.intro @vgE3 <| And.intro @vgE4 <| And.intro @vgE5 <| And.intro @vgE6 <| And.intro @vgE7 <| And.intro @vgE8 <| And.intro @vgE9 <| @vgE10
def kxB1 := And.intro @vgE11 <| And.intro @vgE12 <| And.intro @vgE13 <| And.intro @vgE14 <| And.intro @vgE15 <| And.intro @vgE16 <| And.intro @vgE17 <| And.intro @vgE18 <| And.intro @vgE19 <| @vgE20
def kxB2 := And.intro @vgE21 <| And.intro @vgE22 <| And.intro @vgE23 <| And.intro @vgE24 <| And.intro @vgE25 <| And.intro @vgE26 <| And.intro @vgE27 <| And.intro @vgE28 <| @vgE29
def kxC0 := And.intro @panV_one <| And.intro @panV_nil <| And.intro @cells_clo <| And.intro @isC_clo <| And.intro @anil_ie <| And.intro @anil_in <| And.intro @aeval_tmp <| And.intro @aeval_int <| And.intro @aeval_bool <| @aeval_str
def kxC1 := And.intro @aeval_snil <| And.intro @aeval_nptr <| And.intro @aeval_nmap <| And.intro @aeval_agg <| And.intro @absC_int <| And.intro @absC_bool <| And.intro @absC_str <| And.intro @absC_snil <| And.intro @absC_nptr <| @absC_nmap
def kxC2 := And.intro @aeval_glob <| And.intro @obj_lit <| And.intro @slot_lit <| And.intro @app_none <| And.intro @app_nn <| And.intro @app_upd <| And.intro @app_updn <| And.intro @gd_none <| And.intro @gd_some <| @cells_agg
def kxC3 := And.intro @cells_pv <| And.intro @cells_snil <| And.intro @cells_ref <| And.intro @cells_row <| And.intro @cells_map <| And.intro @isC_pv <| And.intro @isC_snil <| And.intro @isC_ref <| And.intro @isC_row <| @isC_map
def kxC4 := And.intro @toPs_nil <| And.intro @toPs_pv <| And.intro @toPs_snil <| And.intro @toPs_ref <| And.intro @toPs_eref <| And.intro @acells_nil <| And.intro @acells_cons <| And.intro @arows_nil <| And.intro @arows_cons <| @afill_nil
def kxC5 := And.intro @afill_cons <| And.intro @splice_e <| And.intro @src_snil <| And.intro @src_pv <| And.intro @src_str <| And.intro @srcKd_1 <| And.intro @srcKd_2 <| And.intro @all_bRow <| And.intro @nums_bRow <| @strOf_map
def kxC6 := And.intro @src_row <| And.intro @bnd_none <| And.intro @bnd_some <| And.intro @fold_nil <| And.intro @fold_cons <| And.intro @amax_e <| And.intro @amin_e <| And.intro @comp_nil <| And.intro @comp_cons <| @gres_none
def kxC7 := And.intro @gres_some <| And.intro @ares_nil <| And.intro @ares_tmp <| And.intro @ares_cell <| And.intro @aresO_cell <| And.intro @pack_one <| And.intro @pack_nil <| And.intro @pack_two <| And.intro @toMV_agg <| @nilC_tmp
def kxC8 := And.intro @nilC_int <| And.intro @nilC_bool <| And.intro @nilC_str <| And.intro @nilC_nil <| And.intro @anil_eq <| And.intro @anil_ne <| And.intro @aeval_nili <| And.intro @absC_nili <| And.intro @nums_nil <| @nums_cons
def kxC9 := And.intro @mval_t <| And.intro @mval_f <| And.intro @toMV_pv <| And.intro @aeqE_nil <| And.intro @aeqE_cons <| And.intro @aeqE_int <| And.intro @aeqE_bool <| And.intro @aeqE_str <| And.intro @aeqE_eq <| @aeqE_ne
def kxC10 := And.intro @abinE1 <| And.intro @abinE2 <| And.intro @abinE3 <| And.intro @abinE4 <| And.intro @abinE5 <| And.intro @abinE6 <| And.intro @abinE7 <| And.intro @abinE8 <| And.intro @abinE9 <| @abinE10
def kxC11 := And.intro @abinE11 <| And.intro @abinE12 <| And.intro @abinE13 <| And.intro @abinE14 <| And.intro @abinE15 <| And.intro @abinE16 <| And.intro @get0 <| And.intro @set0 <| And.intro @get1 <| @set1
def kxC12 := And.intro @get2 <| And.intro @set2 <| And.intro @get3 <| And.intro @set3 <| And.intro @get4 <| And.intro @set4 <| And.intro @get5 <| And.intro @set5 <| And.intro @get6 <| @set6
def kxC13 := And.intro @get7 <| And.intro @set7 <| And.intro @getJ <| @setJ
def kxP0 := And.intro @List.map_cons.{0,0} <| And.intro @List.map_nil.{0,0} <| And.intro @List.all_cons.{0} <| And.intro @List.all_nil.{0} <| And.intro @List.take_succ_cons.{0} <| And.intro @List.take_zero.{0} <| And.intro @List.drop_succ_cons.{0} <| And.intro @List.drop_zero.{0} <| And.intro @List.length_cons.{0} <| @List.length_nil.{0}
def kxP1 := And.intro @List.length_map.{0,0} <| And.intro @List.nil_append.{0} <| And.intro @List.cons_append.{0} <| And.intro @List.append_nil.{0} <| And.intro @List.getElem?_cons_zero.{0} <| And.intro @List.getElem?_cons_succ.{0} <| And.intro @List.size_toArray.{0} <| And.intro @List.toList_toArray.{0} <| And.intro @Option.bind_some.{0,0} <| @Option.map_some.{0,0}
def kxP2 := And.intro @Option.map_none.{0,0} <| And.intro @Option.getD_some.{0} <| And.intro @Bool.and_self <| And.intro @Bool.and_true <| And.intro @Bool.true_and <| And.intro @Bool.not_true <| And.intro @Bool.not_false <| And.intro @Int.toNat_natCast <| And.intro @Nat.zero_add <| @Nat.add_zero
def kxP3 := And.intro @Nat.zero_mul <| And.intro @Nat.one_mul <| And.intro @cast0 <| And.intro @Int.cast_ofNat_Int <| And.intro @beq_true <| And.intro @beq_false <| And.intro and_self <| And.intro and_true <| And.intro true_and <| true_or
def kxP4 := And.intro or_true <| And.intro @if_true.{1} <| And.intro @if_false.{1} <| And.intro @ite_self.{1} <| And.intro Bool.false_eq_true <| And.intro @eq_self.{1} <| And.intro @beq_self_eq_true.{0} <| And.intro Nat.lt_irrefl <| And.intro @ne_eq.{1} <| not_true_eq_false
def kxP5 := And.intro not_false_eq_true <| And.intro @decide_true <| And.intro @decide_false <| And.intro Nat.succ_ne_self <| And.intro Int.natCast_nonneg <| And.intro @implies_true.{1} <| And.intro @true_implies <| And.intro @map_ite <| And.intro @map_ite' <| @List.replicate_zero.{0}
def kxP6 := And.intro @List.replicate_succ.{0} <| And.intro @Bool.true_eq_false <| And.intro @PVal.int.injEq <| And.intro @PVal.bool.injEq <| And.intro @PVal.str.injEq <| @PVal.slice.injEq
def kx := And.intro @kxA0 <| And.intro @kxA1 <| And.intro @kxA2 <| And.intro @kxA3 <| And.intro @kxA4 <| And.intro @kxA5 <| And.intro @kxB0 <| And.intro @kxB1 <| And.intro @kxB2 <| And.intro @kxC0 <| And.intro @kxC1 <| And.intro @kxC2 <| And.intro @kxC3 <| And.intro @kxC4 <| And.intro @kxC5 <| And.intro @kxC6 <| And.intro @kxC7 <| And.intro @kxC8 <| And.intro @kxC9 <| And.intro @kxC10 <| And.intro @kxC11 <| And.intro @kxC12 <| And.intro @kxC13 <| And.intro @kxP0 <| And.intro @kxP1 <| And.intro @kxP2 <| And.intro @kxP3 <| And.intro @kxP4 <| And.intro @kxP5 <| And.intro @kxP6 <| And.intro @kw1 <| And.intro @kw2 <| And.intro @kw5 <| @kw6
def ky := And.intro @kw3 <| @kw4
end Go.Abs
namespace Go.Abs
open Go
variable {P : Program} {env : Env} {pin : Nat} {σ : St} {Q : Exit → St → Prop}
section
variable {K : KT} {t : Tg K} {p : Prop} {f : FuncId} {vals cargs : List AVal} {res : AVal} {d : Option Nat} {rest : List COp} {acc : Option Tr}
theorem Ctr.pure (hent : ∀ vargs w, (callFunc f vargs).run P w = .ok (.enter f vargs) w) (hac : AC P env.gl f cargs [] res []) (hs : subL vals cargs) (hsc : inScopeL (hasObj []) vals = true) (hres : inScope (hasObj []) res = true)
    {K' : List Nat → Eff → Prop} {KP : Value → St → Prop} (h : K' [] ⟨res, []⟩) : Ctr P env f vals σ K' KP := by
  refine .inl ⟨vals, [], [], [], res, [], hac.sub hs, fun o ho => CallFits.pure ho hent (by rw [renL_none _ _ hsc]) hsc, ?_⟩
  rw [ren_none _ _ hres]
  exact h
theorem CK.cs (hent : ∀ vargs w, (callFunc f vargs).run P w = .ok (.enter f vargs) w) (hac : AC P env.gl f cargs [] res []) (hs : subL vals cargs) (hsc : inScopeL (hasObj []) vals = true) (hres : inScope (hasObj []) res = true)
    (h : VL P env K t rest (accAdd acc ([], [])) (σ.app d ⟨res, []⟩)) : CK P env K t True f vals d rest acc σ :=
  ⟨fun _ => Ctr.pure hent hac hs hsc hres h, fun h => (h trivial).elim⟩
theorem CK.cp (hent : ∀ vargs w, (callFunc f vargs).run P w = .ok (.enter f vargs) w) (hac : p → AC P env.gl f vals [] res []) (hsc : inScopeL (hasObj []) vals = true) (hres : inScope (hasObj []) res = true)
    (h : VL P env K t rest (accAdd acc ([], [])) (σ.app d ⟨cw p res, []⟩)) : CK P env K t p f vals d rest acc σ :=
  ⟨fun hp => Ctr.pure hent (hac hp) (subL_refl _) hsc hres (by rw [cw_pos hp] at h; exact h), fun hp => by rw [cw_neg hp] at h; exact h⟩
theorem CK.co {A : List AVal} {O vobjs : List (Option AObj)} {objs' : List (Option AObj)} (ids news : List Nat) (hent : ∀ vargs w, (callFunc f vargs).run P w = .ok (.enter f vargs) w)
    (hac : AC P env.gl f A vobjs res objs') (hobjs : ids.map σ.obj = O)
    (hA : renL (tau (ids ++ news)) A = vals) (hO : renOs (tau (ids ++ news)) vobjs = O) (hsA : inScopeL (hasObj vobjs) A = true) (hsO : allS (hasObj vobjs) vobjs = true)
    (hn : ((ids ++ news).Nodup ∧ ∀ id ∈ ids ++ news, id < env.nobj)) (hf : freshB σ news = true) (hl : objs'.length ≤ (ids ++ news).length)
    (h : VL P env K t rest (accAdd acc (ids ++ news, (callUpd (tau (ids ++ news)) (ids ++ news) 0 objs').map Prod.fst)) (σ.app d ⟨ren (tau (ids ++ news)) res, callUpd (tau (ids ++ news)) (ids ++ news) 0 objs'⟩)) : CK P env K t True f vals d rest acc σ :=
  ⟨fun _ => .inl ⟨A, vobjs, ids, news, res, objs', hac, fun _ ho => fitsC ids news ho hent hobjs hA hO hsA hsO hn hf hl, h⟩, fun h => (h trivial).elim⟩
theorem CK.po {A : List AVal} {O vobjs : List (Option AObj)} {objs' : List (Option AObj)} {x : Value} (ids news : List Nat) (hent : ∀ vargs w, (callFunc f vargs).run P w = .ok (.enter f vargs) w)
    (hac : AP P env.gl f A vobjs x objs') (hobjs : ids.map σ.obj = O)
    (hA : renL (tau (ids ++ news)) A = vals) (hO : renOs (tau (ids ++ news)) vobjs = O) (hsA : inScopeL (hasObj vobjs) A = true) (hsO : allS (hasObj vobjs) vobjs = true)
    (hn : ((ids ++ news).Nodup ∧ ∀ id ∈ ids ++ news, id < env.nobj)) (hf : freshB σ news = true) (hl : objs'.length ≤ (ids ++ news).length)
    (h : K acc (some x) ⟨σ.slots, setAll σ.objs (callUpd (tau (ids ++ news)) (ids ++ news) 0 objs')⟩) : CK P env K t True f vals d rest acc σ :=
  ⟨fun _ => .inr ⟨A, vobjs, ids, news, x, objs', hac, fun _ ho => fitsC ids news ho hent hobjs hA hO hsA hsO hn hf hl, h⟩, fun h => (h trivial).elim⟩
end
theorem wrapS (k : Nat) (h : k < 9223372036854775807) : IntKind.i64.wrap ((k : Int) + 1) = ((k + 1 : Nat) : Int) := by rw [wrap64 _ (by omega) (by omega)]; rfl
theorem SB.e {α : Type} [BEq α] [LawfulBEq α] {a b : α} {A B : Prop} {t : Tg (A, B)} (h1 : a = b → A) (h2 : a ≠ b → B) : SB (a == b) A B t := ⟨fun h => h1 (by simpa using h), fun h => h2 (by simpa using h)⟩
theorem SB.b {b : Bool} {A B : Prop} {t : Tg (A, B)} (h1 : b = true → A) (h2 : b = false → B) : SB b A B t := ⟨h1, h2⟩
theorem ren_e1 (ι : Nat → Nat) (i o : Nat) : ren ι (.ref i o) = .ref (ι i) o := by simp [ren]
theorem ren_e2 (ι : Nat → Nat) (i o : Nat) : ren ι (.row i o) = .row (ι i) o := by simp [ren]
theorem ren_e3 (ι : Nat → Nat) (i : Nat) : ren ι (.map i) = .map (ι i) := by simp [ren]
theorem ren_e4 (ι : Nat → Nat) (p : PVal) : ren ι (.pv p) = .pv p := by simp [ren]
theorem ren_e5 (ι : Nat → Nat) : ren ι .snil = .snil := by simp [ren]
theorem ren_e6 (ι : Nat → Nat) (l : List AVal) : ren ι (.agg l) = .agg (renL ι l) := by simp [ren]
theorem ren_e7 (ι : Nat → Nat) (l : List AVal) : ren ι (.tup l) = .tup (renL ι l) := by simp [ren]
theorem ren_e8 (ι : Nat → Nat) : ren ι .junk = .junk := by simp [ren]
theorem ren_e9 (ι : Nat → Nat) (f : Nat) (l : List AVal) : ren ι (.clo f l) = .clo f (renL ι l) := by simp [ren]
theorem ren_ec (ι : Nat → Nat) (i n z : Nat) : ren ι (.csl i n z) = .csl (ι i) n z := by simp [ren]
theorem renL_e1 (ι : Nat → Nat) : renL ι [] = [] := by simp [renL]
theorem renL_e2 (ι : Nat → Nat) (a : AVal) (r : List AVal) : renL ι (a :: r) = ren ι a :: renL ι r := by simp [renL]
theorem renO_e1 (ι : Nat → Nat) (l : List AVal) : renO ι (.cells l) = .cells (renL ι l) := rfl
theorem renO_e2 (ι : Nat → Nat) (sz : Nat) (xs : List (List PVal)) : renO ι (.row sz xs) = .row sz xs := rfl
theorem renO_e3 (ι : Nat → Nat) (kd : Kd) (es : List (PVal × Bool × List PVal)) : renO ι (.map kd es) = .map kd es := rfl
theorem renO_e4 (ι : Nat → Nat) : renO ι .dead = .dead := rfl
theorem renO_e5 (ι : Nat → Nat) (T e B n : Nat) : renO ι (.bh T e B n) = .bh T e (ι B) n := rfl
theorem renO_e6 (ι : Nat → Nat) (e : Nat) (s : List UInt8) : renO ι (.bb e s) = .bb e s := rfl
theorem cu_e1 (ι : Nat → Nat) (k : Nat) (o : List (Option AObj)) : callUpd ι [] k o = [] := rfl
theorem cu_e2 (ι : Nat → Nat) (i : Nat) (l : List Nat) (k : Nat) (o : List (Option AObj)) : callUpd ι (i :: l) k o = (i, renO ι ((o.getD k none).getD .dead)) :: callUpd ι l (k + 1) o := rfl
theorem setAll_n (o : List (Option AObj)) : setAll o [] = o := rfl
theorem setAll_c (o : List (Option AObj)) (q : Nat × AObj) (r : List (Nat × AObj)) : setAll o (q :: r) = setAll (o.set q.1 (some q.2)) r := rfl
theorem tau_e (l : List Nat) (k : Nat) : tau l k = l.getD k 0 := rfl
def kz1 := And.intro @ren_ec <| And.intro @ren_e1 <| And.intro @ren_e2 <| And.intro @ren_e3 <| And.intro @ren_e4 <| And.intro @ren_e5 <| And.intro @ren_e6 <| And.intro @ren_e7 <| And.intro @ren_e8 <| And.intro @ren_e9 <| And.intro @renL_e1 <| @renL_e2
def kz2 := And.intro @renO_e5 <| And.intro @renO_e6 <| And.intro @renO_e1 <| And.intro @renO_e2 <| And.intro @renO_e3 <| And.intro @renO_e4 <| And.intro @cu_e1 <| And.intro @cu_e2 <| And.intro @setAll_n <| And.intro @setAll_c <| @tau_e
def kz := And.intro @kz1 @kz2
def weakQ (env : Env) (pin : Nat) (Q : Exit → St → Prop) : Exit → St → Prop := fun e σ => ∃ σ', Weak env pin σ σ' ∧ Q e σ'
theorem SW.weakEnd {c : Code} (h : SW P env pin c σ (weakQ env pin Q)) : SW P env pin c σ Q := fun hl E g M a w hR hG =>
  wp_mono (h hl E g M a w hR hG) fun e a' w' ⟨σ', g', M', ⟨σ'', hw, hq⟩, hR', hM, hA, hl'⟩ => by
    obtain ⟨hl2, hw2⟩ := hw hl'
    obtain ⟨g2, M2, hR2, hM2, hA2⟩ := hw2 _ _ _ _ _ hR'
    exact ⟨σ'', g2, M2, hq, hR2, Mem.le_trans hM hM2, hA.trans hA2, hl2⟩
def NX {ι : Type} (env : Env) (pin : Nat) (I : ι → St) (μ : ι → Nat) (t : Tg (I, μ)) (m : Nat) (σ : St) : Prop := ∃ j, Weak env pin σ (I j) ∧ μ j < m
theorem LW.loop {ι : Type} {c : Code} {t : Tg (Code.loop c, Q)} (hE : EnvOK P env) (hm : P.follows .mixedOrders = true) (I : ι → St) (μ : ι → Nat) (i0 : ι) (h0 : Weak env pin σ (I i0))
    (round : ∀ i, VC P env pin c (I i) (thenQ (NX env pin I μ .mk (μ i)) Q)) : LW P env pin (.loop c) σ Q t :=
  SW.loop I μ i0 h0 fun i => VC.to hE hm c (round i)
theorem REG.ok {ops : Array Oper} {t : Tg ops} {tr : Tr} (h : regT ops (anc ops) (pairAt tr) = true) : REG ops t tr := h
theorem PREG.ok {ops : Array Oper} {t : Tg ops} {tr : Tr} (h : (regT ops (anc ops) (pairAt tr) && lateOK ops tr.length && tr.all fun r => r.2.isEmpty) = true) : PREG ops t tr := h
theorem LW.weak {c : Code} {σ' : St} {t : Tg (c, Q)} (hw : Weak env pin σ σ') (h : LW P env pin c σ' Q .mk) : LW P env pin c σ Q t := SW.weak hw h
end Go.Abs
namespace Go.Abs
open Go
variable {P : Program} {env : Env} {pin : Nat} {σ : St} {Q : Exit → St → Prop}
variable {K : KT} {t : Tg K} {p : Prop} {f : FuncId} {vals cargs : List AVal} {res : AVal} {d : Option Nat} {rest : List COp} {acc : Option Tr}
end Go.Abs
namespace Go.Abs
open Go
variable {P : Program} {env : Env} {pin : Nat} {σ : St} {Q : Exit → St → Prop}
def AD (P : Program) (gl : Nat → Option (List PVal)) (f : FuncId) (args : List AVal) (objs : List (Option AObj)) (u u' : FrameMode) (objs' : List (Option AObj)) : Prop :=
  ∀ (w : World) (M : Mem) (g : Gh) (vargs : List Value), Rel ⟨w, M, blocksOf g objs, []⟩ ⟨args, objs⟩ g M ⟨vargs.toArray, []⟩ w → GOKE ⟨fun _ => none, gl, fun _ => 0, 0⟩ ⟨w, M, blocksOf g objs, []⟩ M →
    CallsD P f vargs.toArray u w fun e u2 w' => ∃ v g' M', e = .returned v ∧ u2 = u' ∧ Rel ⟨w, M, blocksOf g objs, []⟩ ⟨[.junk], objs'⟩ g' M' ⟨#[v], []⟩ w' ∧ ∀ id, hasObj objs id = true → g.agree g' id
inductive Rec' : FrameMode → AVal → FrameMode → Prop
  | idle : Rec' .returning (.pv (.err true)) .returning
  | found (x : Value) (rv : AVal) (h : panV rv = some x) : Rec' (.panicking (oneP x)) rv (.panicking [{ v := x, recovered := true }])
theorem scalV_rd {p : PVal} {v : Value} {M : Mem} (h : scalV p = some v) : Rd M p v := by
  unfold scalV at h
  split at h <;> cases h <;> constructor
theorem scalVs_rd {M : Mem} : ∀ {cs : List PVal} {vs : List Value}, scalVs cs = some vs → vs.length = cs.length ∧ ∀ i, i < cs.length → Rd M (cs.getD i .nilptr) (vs.getD i undef)
  | [], vs, h => by cases h; exact ⟨rfl, fun i hi => by simp at hi⟩
  | c :: r, vs, h => by
    unfold scalVs at h
    split at h
    · rename_i v ws h1 h2
      cases h
      obtain ⟨h3, h4⟩ := scalVs_rd (M := M) h2
      refine ⟨by simp [h3], fun i hi => ?_⟩
      cases i with
      | zero => exact scalV_rd h1
      | succ i => exact h4 i (by simpa using hi)
    · cases h
theorem panV_V {rv : AVal} {x : Value} (h : panV rv = some x) (g : Gh) (D : Nat → Prop) (M : Mem) : V g D M rv x := by
  unfold panV at h
  split at h
  · split at h
    · rename_i t cs vs hs
      cases h
      obtain ⟨h1, h2⟩ := scalVs_rd (M := M) hs
      exact .pv (.ifca _ _ vs h1 h2)
    · cases h
  · split at h
    · rename_i t c v hs
      cases h
      exact .pv (.ifco _ _ _ (scalV_rd hs))
    · cases h
  · cases h
theorem Rel.enter {E : Ent} {args : List AVal} {objs : List (Option AObj)} {g : Gh} {M : Mem} {vargs : List Value} {w : World} (hR : Rel E ⟨args, objs⟩ g M ⟨vargs.toArray, []⟩ w) (m nobj : Nat) :
    Rel E ⟨args ++ List.replicate m .junk, objs ++ List.replicate (nobj - objs.length) none⟩ g M ⟨vargs.toArray ++ Array.replicate m undef, []⟩ w := by
  have hla : vargs.length = args.length := by simpa using hR.size
  have hobj : ∀ id, St.obj ⟨args ++ List.replicate m .junk, objs ++ List.replicate (nobj - objs.length) none⟩ id = St.obj ⟨args, objs⟩ id := fun id => by
    simp only [St.obj, List.getD]
    by_cases hid : id < objs.length
    · rw [List.getElem?_append_left hid]
    · rw [List.getElem?_append_right (by omega), List.getElem?_eq_none (by omega : objs.length ≤ id)]
      rw [List.getElem?_replicate]
      split <;> rfl
  have hdom : St.dom ⟨args ++ List.replicate m .junk, objs ++ List.replicate (nobj - objs.length) none⟩ = St.dom ⟨args, objs⟩ := by
    funext id; simp only [St.dom, hobj]
  refine ⟨by simp [hla], hR.defers, ?_, ?_, ?_, ?_, hR.sat, hR.M0, hR.Mnew, hR.size0, hR.same, ?_, hR.os, hR.tape, hR.output⟩
  · intro i hi
    rw [hdom]
    by_cases hia : i < args.length
    · have e1 : St.slot ⟨args ++ List.replicate m .junk, objs ++ List.replicate (nobj - objs.length) none⟩ i = St.slot ⟨args, objs⟩ i := by
        simp [St.slot, List.getElem?_append_left hia]
      have e2 : (vargs.toArray ++ Array.replicate m undef).getD i undef = vargs.toArray.getD i undef := by
        simp only [Array.getD_eq_getD_getElem?]
        rw [Array.getElem?_append_left (by simp; omega)]
      show V g _ M _ ((vargs.toArray ++ Array.replicate m undef).getD i undef)
      rw [e1, e2]; exact hR.slots i hia
    · have e1 : St.slot ⟨args ++ List.replicate m .junk, objs ++ List.replicate (nobj - objs.length) none⟩ i = .junk := by
        simp only [St.slot, List.getD]
        rw [List.getElem?_append_right (by omega), List.getElem?_replicate]
        split <;> rfl
      rw [e1]; exact .junk _
  · intro id o ho; rw [hobj] at ho; rw [hdom]; exact hR.objs id o ho
  · intro id id' o o' b ho ho'; rw [hobj] at ho ho'; exact hR.apart id id' o o' b ho ho'
  · intro id o b ho; rw [hobj] at ho; exact hR.offM id o b ho
  · intro id o b ho; rw [hobj] at ho; exact hR.own0 id o b ho
theorem AD.of_body (hE : EnvOK P env) (hm : P.follows .mixedOrders = true) {f : FuncId} {fn : Func} {id0 t t' : Nat} {ty1 ty2 : TypeId} {p1 p2 : String} {a1 a2 : Array Edge} {tys : Array TypeId} {rest : Code} (hf : P.funcs[f]? = some fn)
    (hb : fn.body = some (.seq (.region id0 #[⟨some t, .call ⟨.builtin .recover, #[], tys⟩, ty1, p1, a1, none⟩, ⟨some t', .assign (.tmp t), ty2, p2, a2, none⟩] false) rest)) {args : List AVal} {objs objs' : List (Option AObj)} {u u' : FrameMode} {rv : AVal}
    (hres : fn.results = #[]) (hrec : Rec' u rv u') (hargs : args.length ≤ fn.ntmps) (hobjs : objs.length ≤ env.nobj) (ht : t < fn.ntmps)
    (h : VC P env objs.length rest ((⟨args ++ List.replicate (fn.ntmps - args.length) .junk, objs ++ List.replicate (env.nobj - objs.length) none⟩ : St).app (some t) ⟨rv, []⟩ |>.app (some t') ⟨rv, []⟩) (retQ env objs.length [] (.tup []) objs')) :
    AD P env.gl f args objs u u' objs' := by
  intro w M g vargs hR hG
  have hla : vargs.length = args.length := by simpa using hR.size
  refine callsD_of_wpS hf hb fun c₀ cs hu => ?_
  have esz : fn.ntmps - vargs.toArray.size = fn.ntmps - args.length := by simp [hla]
  rw [esz]
  have hR0 := hR.enter (fn.ntmps - args.length) env.nobj
  obtain ⟨x, hx, hrv, hV⟩ : ∃ x : Value, (recoverD (c₀ :: cs) = some (x, { c₀ with mode := u' } :: cs) ∨ (recoverD (c₀ :: cs) = none ∧ x = .nilIface ∧ u' = u)) ∧ True ∧ ∀ (g : Gh) (D : Nat → Prop) (M : Mem), V g D M rv x := by
    cases hrec with
    | idle => exact ⟨.nilIface, .inr ⟨by simp [recoverD, hu], rfl, rfl⟩, trivial, fun _ _ _ => .pv .errn⟩
    | found x _ hp => exact ⟨x, .inl (by simp [recoverD, hu, oneP]), trivial, fun g D M => panV_V hp g D M⟩
  apply wpS_seq
  apply wpS_region
  have hsz : ((#[⟨some t, .call ⟨.builtin .recover, #[], tys⟩, ty1, p1, a1, none⟩, ⟨some t', .assign (.tmp t), ty2, p2, a2, none⟩] : Array Oper)).size = 2 := rfl
  rw [hsz]
  show wpOpsS P _ _ [0, 1] _ _ _
  have hmain : ∀ cs', ((∃ v, v = x ∧ cs' = { c₀ with mode := u' } :: cs)) → wpOpsS P #[⟨some t, .call ⟨.builtin .recover, #[], tys⟩, ty1, p1, a1, none⟩, ⟨some t', .assign (.tmp t), ty2, p2, a2, none⟩] (Exit.thenS (rest.wpS P (bodyPostS P fn c₀ cs fun e u2 w' => ∃ v g' M', e = .returned v ∧ u2 = u' ∧ Rel ⟨w, M, blocksOf g objs, []⟩ ⟨[.junk], objs'⟩ g' M' ⟨#[v], []⟩ w' ∧ ∀ id, hasObj objs id = true → g.agree g' id)) (bodyPostS P fn c₀ cs fun e u2 w' => ∃ v g' M', e = .returned v ∧ u2 = u' ∧ Rel ⟨w, M, blocksOf g objs, []⟩ ⟨[.junk], objs'⟩ g' M' ⟨#[v], []⟩ w' ∧ ∀ id, hasObj objs id = true → g.agree g' id)) [1]
      (Act.put { tmps := vargs.toArray ++ Array.replicate (fn.ntmps - args.length) undef, defers := [] } (some t) x) cs' w := by
    rintro cs' ⟨v, rfl, rfl⟩
    have h1 := hR0.put (some t) (x := rv) (hV _ _ _)
    have hev : (Act.put { tmps := vargs.toArray ++ Array.replicate (fn.ntmps - args.length) undef, defers := [] } (some t) v).eval (.tmp t) = v := by
      have hlt : t < (vargs.toArray ++ Array.replicate (fn.ntmps - args.length) undef).size := by simp; omega
      simp only [Act.put, Act.eval]
      rw [Array.getD_eq_getD_getElem?, Array.getElem?_setIfInBounds_self_of_lt hlt]
      rfl
    have h2 := h1.put (some t') (x := rv) (hV _ _ _)
    simp only [wpOpsS, List.getElem?_toArray, List.getElem?_cons_succ, List.getElem?_cons_zero, Region.wanted, if_true, execOp, hev, Sem.run_pure, Oper.upon, Exit.thenS]
    refine wpS_of_wp ?_
    refine wp_mono (VC.to hE hm rest h (by simp [St.app]; omega) _ g M _ w h2 hG) fun e a' w' ⟨σ', g', M', hq, hR', hM, hA, hl'⟩ => ?_
    obtain ⟨he, vs, τ, hvs, hws, hwo, hpin, hnd, hlen⟩ := hq
    have key : a'.defers = [] ∧ ∃ u2, ({ c₀ with mode := u' } :: cs : List Frame) = { c₀ with mode := u2 } :: cs ∧ ∃ v, (results fn a'.tmps).run P w' = .ok v w' ∧ (∃ v0 g' M', Ending.returned v = .returned v0 ∧ u2 = u' ∧ Rel ⟨w, M, blocksOf g objs, []⟩ ⟨[.junk], objs'⟩ g' M' ⟨#[v0], []⟩ w' ∧ ∀ id, hasObj objs id = true → g.agree g' id) := by
      refine ⟨hR'.defers, u', rfl, .tuple #[], by simp [results, hres], .tuple #[], _, M', rfl, rfl, hR'.wk (σ' := ⟨[.junk], objs'⟩) (tau τ) (by simp) rfl (fun i hi => .inl ?_) hwo (fun i j hi hj e => nodup_get_inj hnd (by simp at hi; omega) (by simp at hj; omega) e), fun id hid => ?_⟩
      · have hi0 : i = 0 := by simpa using hi
        subst hi0
        rfl
      · have hlt : id < objs.length := by
          rcases Nat.lt_or_ge id objs.length with h | h
          · exact h
          · simp [hasObj, List.getD, List.getElem?_eq_none h] at hid
        have hd : St.dom ((⟨args ++ List.replicate (fn.ntmps - args.length) .junk, objs ++ List.replicate (env.nobj - objs.length) none⟩ : St).app (some t) ⟨rv, []⟩ |>.app (some t') ⟨rv, []⟩) id := by
          intro h0
          have h1 : (objs ++ List.replicate (env.nobj - objs.length) none).getD id none = none := h0
          rw [List.getD_eq_getElem?_getD, List.getElem?_append_left hlt, ← List.getD_eq_getElem?_getD] at h1
          simp only [hasObj] at hid
          rw [h1] at hid; cases hid
        obtain ⟨⟨h1, h2, h3⟩, _⟩ := hA id hlt hd
        simp only [Gh.agree, hpin id hlt]
        exact ⟨h1, h2, h3⟩
    rcases he with rfl | rfl
    · exact key
    · exact key
  have hrun0 : (execOp (Act.eval { tmps := vargs.toArray ++ Array.replicate (fn.ntmps - args.length) undef, defers := [] }) ⟨some t, .call ⟨.builtin .recover, #[], tys⟩, ty1, p1, a1, none⟩).run P w = .ok .recover w := by
    simp [execOp, resolve, invoke, builtin, Sem.run_bind, Result.andThen]
  unfold wpOpsS
  simp only [List.getElem?_toArray, List.getElem?_cons_zero, Region.wanted, if_true, hrun0]
  rcases hx with hx | ⟨hx, rfl, rfl⟩
  · rw [hx]
    exact hmain _ ⟨x, rfl, rfl⟩
  · rw [hx]
    exact hmain _ ⟨_, rfl, by cases c₀; simp_all⟩
def defQ (P : Program) (env : Env) (fc : FuncId) (cs : List AVal) (rs : List ResultVar) (res : AVal) : Exit → St → Prop := fun e σ =>
  ∃ (u u' : FrameMode) (cargs : List AVal) (cobjs : List (Option AObj)) (ids : List Nat) (objs' : List (Option AObj)),
    (((e = .ret ∨ e = .normal) ∧ u = .returning) ∨ ∃ x, e = .panic (oneP x) ∧ u = .panicking (oneP x)) ∧ settle u' = .returning ∧ AD P env.gl fc cargs cobjs u u' objs' ∧
    cs = renL (tau (ids ++ [])) cargs ∧ ids.map σ.obj = cobjs.map (Option.map (renO (tau (ids ++ [])))) ∧ inScopeL (hasObj cobjs) cargs = true ∧ (∀ ob, some ob ∈ cobjs → inScopeO (hasObj cobjs) ob = true) ∧
    (ids ++ []).Nodup ∧ (∀ id, id ∈ ids ++ [] → id < env.nobj) ∧ objs'.length ≤ (ids ++ []).length ∧
    PK (St.obj ⟨σ.slots, setAll σ.objs (callUpd (tau (ids ++ [])) (ids ++ []) 0 objs')⟩) (ares env ⟨σ.slots, setAll σ.objs (callUpd (tau (ids ++ [])) (ids ++ []) 0 objs')⟩ rs) res
theorem Rel.value1 {E : Ent} {g : Gh} {M : Mem} {w : World} {v : Value} {x res : AVal} (hR : Rel E ⟨[x], σ.objs⟩ g M ⟨#[v], []⟩ w) (h : rdV σ.obj x res) : ∃ gk Mk, Rel E ⟨[res], []⟩ gk Mk ⟨#[v], []⟩ w := by
  obtain ⟨σk, xk, gk, Mk, h1, h2, h3, h4, h5, h6⟩ := hR.read1 (σ := σ) h σ.objs.length (Nat.le_refl _)
  have hno : ∀ i n ys, ¬ rowIs (σk.obj i) n ys := fun i n ys => by
    by_cases hi : i < σ.objs.length
    · exact h6 i n ys hi
    · rintro ⟨sz, e, _⟩
      simp [St.obj, List.getD, List.getElem?_eq_none (by omega : σk.objs.length ≤ i)] at e
  refine ⟨gk, Mk, rfl, h3.defers, fun i hi => ?_, fun id o ho => by simp [St.obj] at ho, fun id id' o o' b ho => by simp [St.obj] at ho, fun id o b ho => by simp [St.obj] at ho, h3.sat, h3.M0, h3.Mnew, h3.size0, h3.same, fun id o b ho => by simp [St.obj] at ho, h3.os, h3.tape, h3.output⟩
  have hi0 : i = 0 := by simpa using hi
  subst hi0
  have h7 := h3.slot 0
  have e : σk.slot 0 = xk := by simp [St.slot, h1]
  rw [e] at h7
  exact V.read hno h7 h5
set_option maxHeartbeats 1000000 in
theorem AC.of_defer (hE : EnvOK P env) (hm : P.follows .mixedOrders = true) {f fc : FuncId} {fn : Func} {r0 rest : Code} {i1 t9 : Nat} {ty1 ty2 : TypeId} {p1 p2 : String} {a1 a2 : Array Edge} {tys : Array TypeId} {caps : Array Operand} (hf : P.funcs[f]? = some fn)
    (hb : fn.body = some (.seq r0 (.seq (.region i1 #[⟨some t9, .makeFunc (.func fc) #[] caps, ty1, p1, a1, none⟩, ⟨none, .defer ⟨.value (.tmp t9), #[], tys⟩, ty2, p2, a2, none⟩] false) rest))) {args : List AVal} {res : AVal}
    (hargs : args.length ≤ fn.ntmps) {cs : List AVal} {σ1 : St} (hent : ∀ vargs w, (callFunc fc vargs).run P w = .ok (.enter fc vargs) w)
    (h0 : VC P env pin r0 ⟨args ++ List.replicate (fn.ntmps - args.length) .junk, List.replicate env.nobj none⟩ (fun e σ => e = .normal ∧ σ = σ1))
    (hcap : caps.toList.map (aeval env σ1) = cs) (hcs : ∀ c, c ∈ cs → ∃ id off, c = .ref id off ∧ id < pin) (ht9 : t9 < σ1.slots.length)
    (h1 : VC P env pin rest (σ1.app (some t9) ⟨.clo fc cs, []⟩) (defQ P env fc cs fn.results.toList res)) : AC P env.gl f args [] res [] := by
  intro w M g vargs hR hG
  have hla : vargs.length = args.length := by simpa using hR.size
  refine calls_of_wp_defers hf hb ?_
  have esz : fn.ntmps - vargs.toArray.size = fn.ntmps - args.length := by simp [hla]
  rw [esz]
  have hR0 := hR.enter (fn.ntmps - args.length) env.nobj
  refine wp_seq (wp_mono (VC.to hE hm r0 h0 (by simp) _ g M _ w hR0 hG) fun e b1 w1 ⟨σ1', g1, M1, ⟨he, hs1⟩, hR1, hM1, hA1, hl1⟩ => ?_)
  subst he hs1
  refine wp_seq (wp_region ?_)
  show wpOps P _ _ [0, 1] b1 w1
  have hop0 : aop env (some t9) (aeval env σ1') σ1'.obj (.makeFunc (.func fc) #[] caps) = some ⟨.clo fc cs, []⟩ := by
    simp only [aop, hcap]
    rfl
  have hG0 : GOKE env ⟨w, M, blocksOf g [], []⟩ M := hG
  have hG1 := hG0.mono hM1
  have hd0 := (aop_does (P := P) (o := ⟨some t9, .makeFunc (.func fc) #[] caps, ty1, p1, a1, none⟩) hR1 hG1.1 hE hl1 hop0).toW
  unfold wpOps
  simp only [List.getElem?_toArray, List.getElem?_cons_zero, Region.wanted, if_true]
  refine .inl (hd0 _ _ fun v w2 g2 M2 hR2 hag2 hM2 => ?_)
  replace hR2 : Rel _ (σ1'.app (some t9) ⟨.clo fc cs, []⟩) g2 M2 (b1.put (some t9) v) w2 := hR2
  show wpOps P _ _ [1] (b1.put (some t9) v) w2
  have hsl : (σ1'.app (some t9) ⟨.clo fc cs, []⟩).slot t9 = .clo fc cs := by simp [St.app, St.slot, ht9]
  have hV := hR2.slot t9
  rw [hsl] at hV
  generalize hb2 : b1.put (some t9) v = b2 at hR2 hV
  generalize hu0 : b2.tmps.getD t9 undef = u0 at hV
  cases hV with
  | clo _ _ vs hvl hvV =>
    have hrun1 : (execOp b2.eval ⟨none, .defer ⟨.value (.tmp t9), #[], tys⟩, ty2, p2, a2, none⟩).run P w2 = .ok (.defer ⟨.fn (.func fc) vs.toArray, #[]⟩) w2 := by
      have hv1 : b2.eval (.tmp t9) = .func (.func fc) #[] vs.toArray := hu0
      simp [execOp, resolve, hv1, Deferred.ofValue, Sem.run_bind, Result.andThen]
    unfold wpOps
    simp only [List.getElem?_toArray, List.getElem?_cons_succ, List.getElem?_cons_zero, Region.wanted, if_true]
    refine .inl ?_
    unfold Oper.wp
    rw [hrun1, Oper.upon_defer]
    show wpOps P _ _ [] { b2 with defers := ⟨.fn (.func fc) vs.toArray, #[]⟩ :: b2.defers } w2
    have hdef : b2.defers = [] := hR2.defers
    rw [hdef]
    show rest.wp P _ _ w2
    have hR3 : Rel ⟨w, M, blocksOf g [], [⟨.fn (.func fc) vs.toArray, #[]⟩]⟩ (σ1'.app (some t9) ⟨.clo fc cs, []⟩) g2 M2 { b2 with defers := [⟨.fn (.func fc) vs.toArray, #[]⟩] } w2 :=
      ⟨hR2.size, rfl, hR2.slots, hR2.objs, hR2.apart, hR2.offM, hR2.sat, hR2.M0, hR2.Mnew, hR2.size0, hR2.same, hR2.own0, hR2.os, hR2.tape, hR2.output⟩
    have hG3 : GOKE env ⟨w, M, blocksOf g [], [⟨.fn (.func fc) vs.toArray, #[]⟩]⟩ M2 := ⟨(hG1.mono hM2).1, hG.2⟩
    refine wp_mono (VC.to hE hm rest h1 (by rw [app_objs_length]; exact hl1) _ g2 M2 _ w2 hR3 hG3) fun e b4 w4 ⟨σ4, g4, M4, hq, hR4, hM4, hA4, hl4⟩ => ?_
    obtain ⟨u, u', cargs, cobjs, ids, objs', hmode, hset, hAD, f1, f2, f3, f4, f5, f6, f7, hpk⟩ := hq
    have hG4 := hG3.mono hM4
    have hvV4 : ∀ i, i < cs.length → V g4 σ4.dom M4 (cs.getD i .junk) (vs.getD i undef) := fun i hi => by
      obtain ⟨id, off, hc, hid⟩ := hcs (cs.getD i .junk) (by rw [getD_lt _ _ _ hi]; exact List.getElem_mem hi)
      have hv := hvV i hi
      rw [hc] at hv ⊢
      generalize vs.getD i undef = y at hv ⊢
      cases hv with
      | ref id off hd =>
        obtain ⟨⟨q1, _, _⟩, q2⟩ := hA4 id hid hd
        rw [← q1]
        exact .ref id off q2
    obtain ⟨gc, k1, k2, k3⟩ := call_frame (res := .junk) (objs' := objs') hR4 hG4 hl4 hvl hvV4 f1 f2 f3 f4 f5 f6 (fun id h => by cases h) f7
    have hcallsD := hAD w4 M4 gc vs k1 k2
    have hinv : (invoke (.fn (.func fc) vs.toArray) #[]).run P w4 = .ok (.enter fc vs.toArray) w4 := by
      have := hent vs.toArray w4
      simpa [invoke] using this
    have hds : b4.defers = [⟨.fn (.func fc) vs.toArray, #[]⟩] := hR4.defers
    have main : ∀ hu : u ≠ .run, Leaves P fn b4.tmps (fun e w' => ∃ v g' M', e = .returned v ∧ Rel ⟨w, M, blocksOf g [], []⟩ ⟨[res], []⟩ g' M' ⟨#[v], []⟩ w' ∧ ∀ id, hasObj [] id = true → g.agree g' id) b4.defers u w4 := fun hu => by
      rw [hds]
      refine leaves_cons hu hinv (hcallsD.mono ?_)
      rintro e u2 w5 ⟨v, g5, M5, rfl, rfl, hR5, hag5⟩
      obtain ⟨g6, hR6, _, _, _⟩ := k3 w5 v g5 M5 hR5 hag5
      show Leaves P fn b4.tmps _ [] (settle u2) w5
      rw [hset]
      cases hvs : ares env ⟨σ4.slots, setAll σ4.objs (callUpd (tau (ids ++ [])) (ids ++ []) 0 objs')⟩ fn.results.toList with
      | none => rw [hvs] at hpk; exact hpk.elim
      | some vs2 =>
        rw [hvs, PK_some] at hpk
        obtain ⟨v2, hrun, hV2⟩ := results_run (P := P) hR6 hE hvs
        refine ⟨v2, hrun, v2, ?_⟩
        have hR7 : Rel ⟨w, M, blocksOf g [], []⟩ ⟨[pack vs2], setAll σ4.objs (callUpd (tau (ids ++ [])) (ids ++ []) 0 objs')⟩ g6 M5 ⟨#[v2], []⟩ w5 := by
          refine ⟨rfl, rfl, fun i hi => ?_, hR6.objs, hR6.apart, hR6.offM, hR6.sat, hR6.M0, hR6.Mnew, hR6.size0, hR6.same, hR6.own0, hR6.os, hR6.tape, hR6.output⟩
          have hi0 : i = 0 := by simpa using hi
          subst hi0
          exact hV2
        obtain ⟨gk, Mk, hk⟩ := Rel.value1 (σ := ⟨σ4.slots, setAll σ4.objs (callUpd (tau (ids ++ [])) (ids ++ []) 0 objs')⟩) hR7 hpk
        exact ⟨gk, Mk, rfl, hk, fun id hid => by simp [hasObj] at hid⟩
    rcases hmode with ⟨he, rfl⟩ | ⟨x, rfl, rfl⟩
    · rcases he with rfl | rfl
      · exact main (by simp)
      · exact main (by simp)
    · exact main (by simp)
end Go.Abs
namespace Go.Abs
open Go
variable {P : Program} {env : Env} {pin : Nat} {σ σ' : St} {Q : Exit → St → Prop}
class SBC (b : Bool) (p q : outParam Prop) : Prop where
  h1 : b = true → p
  h2 : b = false → q
instance (priority := low) (b : Bool) : SBC b (b = true) (b = false) := ⟨id, id⟩
instance (p : Prop) [Decidable p] : SBC (decide p) p (¬ p) := ⟨fun h => by simpa using h, fun h => by simpa using h⟩
instance {α : Type} [BEq α] [LawfulBEq α] (a b : α) : SBC (a == b) (a = b) (a ≠ b) := ⟨fun h => by simpa using h, fun h => by simpa using h⟩
instance {α : Type} [BEq α] [LawfulBEq α] (a b : α) : SBC (a != b) (a ≠ b) (a = b) := ⟨fun h => by simpa using h, fun h => by simpa using h⟩
theorem SB.c {b : Bool} {p q : Prop} [SBC b p q] {A B : Prop} {t : Tg (A, B)} (h1 : p → A) (h2 : q → B) : SB b A B t := ⟨fun h => h1 (SBC.h1 h), fun h => h2 (SBC.h2 h)⟩
theorem REG.i {ops : Array Oper} {t : Tg ops} {tr : Tr} {B : Prop} (hB : B) (h : regT ops (anc ops) (pairAt tr) = true := by kernel_rfl) : REG ops t tr ∧ B := ⟨h, hB⟩
theorem REG.j {ops : Array Oper} {t : Tg ops} {tr : Tr} (h : regT ops (anc ops) (pairAt tr) = true := by kernel_rfl) : REG ops t tr := h
theorem PREG.i {ops : Array Oper} {t : Tg ops} {tr : Tr} {B : Prop} (hB : B) (h : (regT ops (anc ops) (pairAt tr) && lateOK ops tr.length && tr.all fun r => r.2.isEmpty) = true := by kernel_rfl) : PREG ops t tr ∧ B := ⟨h, hB⟩
theorem AndI {a b : Prop} (hb : b) (ha : a := by (intros; (try simp only [decide_eq_true_eq, decide_eq_false_iff_not, beq_iff_eq, bne_iff_ne, Bool.and_eq_true, Bool.or_eq_true] at *); omega)) : a ∧ b := ⟨ha, hb⟩
section
variable {K : KT} {t : Tg K} {p : Prop} {f : FuncId} {vals cargs : List AVal} {res : AVal} {d : Option Nat} {rest : List COp} {acc : Option Tr}
theorem CK.d0 (hent : ∀ vargs w, (callFunc f vargs).run P w = .ok (.enter f vargs) w) (hac : AC P env.gl f vals [] res [])
    (h : VL P env K t rest (accAdd acc ([], [])) (σ.app d ⟨cw p res, []⟩)) (hsc : inScopeL (hasObj []) vals = true := by rfl) (hres : inScope (hasObj []) res = true := by rfl) : CK P env K t p f vals d rest acc σ :=
  CK.cp hent (fun _ => hac) hsc hres h
theorem CK.dx {A : List AVal} {O vobjs : List (Option AObj)} {objs' : List (Option AObj)} (ids news : List Nat) (hent : ∀ vargs w, (callFunc f vargs).run P w = .ok (.enter f vargs) w)
    (hac : AC P env.gl f A vobjs res objs')
    (h : VL P env K t rest (accAdd acc (ids ++ news, (callUpd (tau (ids ++ news)) (ids ++ news) 0 objs').map Prod.fst)) (σ.app d ⟨ren (tau (ids ++ news)) res, callUpd (tau (ids ++ news)) (ids ++ news) 0 objs'⟩))
    (hobjs : ids.map σ.obj = O := by rfl)
    (hA : renL (tau (ids ++ news)) A = vals := by rfl) (hO : renOs (tau (ids ++ news)) vobjs = O := by rfl) (hsA : inScopeL (hasObj vobjs) A = true := by rfl) (hsO : allS (hasObj vobjs) vobjs = true := by rfl)
    (hn : ((ids ++ news).Nodup ∧ ∀ id ∈ ids ++ news, id < env.nobj) := by decide) (hf : freshB σ news = true := by rfl) (hl : objs'.length ≤ (ids ++ news).length := by simp) : CK P env K t True f vals d rest acc σ :=
  CK.co ids news hent hac hobjs hA hO hsA hsO hn hf hl h
theorem CK.dp {A : List AVal} {O vobjs : List (Option AObj)} {objs' : List (Option AObj)} {x : Value} (ids news : List Nat) (hent : ∀ vargs w, (callFunc f vargs).run P w = .ok (.enter f vargs) w)
    (hac : AP P env.gl f A vobjs x objs')
    (h : K acc (some x) ⟨σ.slots, setAll σ.objs (callUpd (tau (ids ++ news)) (ids ++ news) 0 objs')⟩)
    (hobjs : ids.map σ.obj = O := by rfl)
    (hA : renL (tau (ids ++ news)) A = vals := by rfl) (hO : renOs (tau (ids ++ news)) vobjs = O := by rfl) (hsA : inScopeL (hasObj vobjs) A = true := by rfl) (hsO : allS (hasObj vobjs) vobjs = true := by rfl)
    (hn : ((ids ++ news).Nodup ∧ ∀ id ∈ ids ++ news, id < env.nobj) := by decide) (hf : freshB σ news = true := by rfl) (hl : objs'.length ≤ (ids ++ news).length := by simp) : CK P env K t True f vals d rest acc σ :=
  CK.po ids news hent hac hobjs hA hO hsA hsO hn hf hl h
end
theorem wkS_nil (τ : Nat → Nat) (n : Nat → Bool) : wkSlots τ n [] [] = True := by simp [wkSlots]
theorem wkS_cons (τ : Nat → Nat) (n : Nat → Bool) (a b : AVal) (r s : List AVal) : wkSlots τ n (a :: r) (b :: s) = ((b = .junk ∨ (a = ren τ b ∧ inScope n b = true)) ∧ wkSlots τ n r s) := by simp [wkSlots]
theorem wkO_nil (τ : Nat → Nat) (n : Nat → Bool) (σ : St) (k : Nat) : wkObjs τ n σ k [] = True := by simp [wkObjs]
theorem wkO_none (τ : Nat → Nat) (n : Nat → Bool) (σ : St) (k : Nat) (r : List (Option AObj)) : wkObjs τ n σ k (none :: r) = wkObjs τ n σ (k + 1) r := by simp [wkObjs]
theorem wkO_dead (τ : Nat → Nat) (n : Nat → Bool) (σ : St) (k : Nat) (r : List (Option AObj)) : wkObjs τ n σ k (some .dead :: r) = wkObjs τ n σ (k + 1) r := by simp [wkObjs]
theorem wkO_cells (τ : Nat → Nat) (n : Nat → Bool) (σ : St) (k : Nat) (cs : List AVal) (r : List (Option AObj)) : wkObjs τ n σ k (some (.cells cs) :: r) = ((σ.obj (τ k) = some (.cells (renL τ cs)) ∧ inScopeL n cs = true) ∧ wkObjs τ n σ (k + 1) r) := by simp [wkObjs, renO, inScopeO]
theorem wkO_row (τ : Nat → Nat) (n : Nat → Bool) (σ : St) (k : Nat) (sz : Nat) (xs : List (List PVal)) (r : List (Option AObj)) : wkObjs τ n σ k (some (.row sz xs) :: r) = (σ.obj (τ k) = some (.row sz xs) ∧ wkObjs τ n σ (k + 1) r) := by simp [wkObjs, renO, inScopeO]
theorem wkO_map (τ : Nat → Nat) (n : Nat → Bool) (σ : St) (k : Nat) (kd : Kd) (es : List (PVal × Bool × List PVal)) (r : List (Option AObj)) : wkObjs τ n σ k (some (.map kd es) :: r) = (σ.obj (τ k) = some (.map kd es) ∧ wkObjs τ n σ (k + 1) r) := by simp [wkObjs, renO, inScopeO]
theorem wkO_bh (τ : Nat → Nat) (n : Nat → Bool) (σ : St) (k : Nat) (T e B m : Nat) (r : List (Option AObj)) : wkObjs τ n σ k (some (.bh T e B m) :: r) = ((σ.obj (τ k) = some (.bh T e (τ B) m) ∧ n B = true) ∧ wkObjs τ n σ (k + 1) r) := by simp [wkObjs, renO, inScopeO]
theorem wkO_bb (τ : Nat → Nat) (n : Nat → Bool) (σ : St) (k : Nat) (e : Nat) (s : List UInt8) (r : List (Option AObj)) : wkObjs τ n σ k (some (.bb e s) :: r) = (σ.obj (τ k) = some (.bb e s) ∧ wkObjs τ n σ (k + 1) r) := by simp [wkObjs, renO, inScopeO]
theorem sc_1 (n : Nat → Bool) (i o : Nat) : inScope n (.ref i o) = n i := by simp [inScope]
theorem sc_2 (n : Nat → Bool) (i o : Nat) : inScope n (.row i o) = n i := by simp [inScope]
theorem sc_3 (n : Nat → Bool) (i a b c : Nat) : inScope n (.eref i a b c) = n i := by simp [inScope]
theorem sc_4 (n : Nat → Bool) (i : Nat) : inScope n (.map i) = n i := by simp [inScope]
theorem sc_5 (n : Nat → Bool) (cs : List AVal) : inScope n (.agg cs) = inScopeL n cs := by simp [inScope]
theorem sc_6 (n : Nat → Bool) (cs : List AVal) : inScope n (.tup cs) = inScopeL n cs := by simp [inScope]
theorem sc_7 (n : Nat → Bool) (f : Nat) (cs : List AVal) : inScope n (.clo f cs) = inScopeL n cs := by simp [inScope]
theorem sc_8 (n : Nat → Bool) (p : PVal) : inScope n (.pv p) = true := by simp [inScope]
theorem sc_9 (n : Nat → Bool) : inScope n .snil = true := by simp [inScope]
theorem sc_c (n : Nat → Bool) (i a b : Nat) : inScope n (.csl i a b) = n i := by simp [inScope]
theorem sc_a (n : Nat → Bool) : inScope n .junk = true := by simp [inScope]
theorem scL_n (n : Nat → Bool) : inScopeL n [] = true := by simp [inScopeL]
theorem scL_c (n : Nat → Bool) (a : AVal) (r : List AVal) : inScopeL n (a :: r) = (inScope n a && inScopeL n r) := by simp [inScopeL]
theorem ren_eb (ι : Nat → Nat) (i a b c : Nat) : ren ι (.eref i a b c) = .eref (ι i) a b c := by simp [ren]
theorem hasObj_e (o : List (Option AObj)) (i : Nat) : hasObj o i = (o.getD i none).isSome := rfl
theorem obj_e (σ : St) (i : Nat) : σ.obj i = σ.objs.getD i none := rfl
theorem getD_e {α : Type} (l : List α) (i : Nat) (d : α) : l.getD i d = l[i]?.getD d := rfl
def kwf1 := And.intro @wkO_bh <| And.intro @wkO_bb <| And.intro @wkS_nil <| And.intro @wkS_cons <| And.intro @wkO_nil <| And.intro @wkO_none <| And.intro @wkO_dead <| And.intro @wkO_cells <| And.intro @wkO_row <| And.intro @wkO_map <| And.intro @scL_n <| @scL_c
def kwf2 := And.intro @sc_c <| And.intro @sc_1 <| And.intro @sc_2 <| And.intro @sc_3 <| And.intro @sc_4 <| And.intro @sc_5 <| And.intro @sc_6 <| And.intro @sc_7 <| And.intro @sc_8 <| And.intro @sc_9 <| @sc_a
def kwf3 := And.intro @kz1 <| And.intro @ren_eb <| And.intro @hasObj_e <| And.intro @obj_e <| And.intro @getD_e <| And.intro @renO_e1 <| And.intro @renO_e2 <| @renO_e3
def kwf := And.intro @kwf1 <| And.intro @kwf2 @kwf3
theorem tau_e2 (l : List Nat) (k : Nat) : tau l k = l[k]?.getD 0 := rfl
theorem slot_e (σ : St) (i : Nat) : σ.slot i = σ.slots[i]?.getD .junk := rfl
theorem pack_1 (v : AVal) : pack [v] = v := rfl
theorem pack_0 : pack [] = .tup [] := rfl
theorem pack_2 (a b : AVal) (r : List AVal) : pack (a :: b :: r) = .tup (a :: b :: r) := rfl
def kwt := And.intro @kwf @tau_e2
def kwr := And.intro @kwt <| And.intro @slot_e <| And.intro @pack_1 <| And.intro @pack_0 @pack_2
theorem WFn (hs : wkSlots id (hasObj σ'.objs) σ.slots σ'.slots := by simp [kwf]) (ho : wkObjs id (hasObj σ'.objs) σ 0 σ'.objs := by simp [kwf]) (hlen : σ'.objs.length = env.nobj := by rfl) (h1 : (σ'.objs.take pin).all Option.isSome = true := by simp) (h2 : pin ≤ σ'.objs.length := by simp) : Weak env pin σ σ' :=
  Weak.forget hlen (pinsF h1 h2) hs ho
theorem WFe (hs : wkSlots id (hasObj σ'.objs) σ.slots σ'.slots) (ho : wkObjs id (hasObj σ'.objs) σ 0 σ'.objs) (hlen : σ'.objs.length = env.nobj := by rfl) (h1 : (σ'.objs.take pin).all Option.isSome = true := by simp) (h2 : pin ≤ σ'.objs.length := by simp) : Weak env pin σ σ' :=
  Weak.forget hlen (pinsF h1 h2) hs ho
theorem WTe (τ : List Nat) (hs : wkSlots (tau τ) (hasObj σ'.objs) σ.slots σ'.slots) (ho : wkObjs (tau τ) (hasObj σ'.objs) σ 0 σ'.objs) (hlen : σ'.objs.length = env.nobj := by rfl) (hτ : τ.length = env.nobj := by rfl) (hnd : τ.Nodup := by decide) (hp : ∀ k, k < pin → tau τ k = k := by first | decide | (simp only [List.length_cons, List.length_nil]; decide)) (h1 : (σ'.objs.take pin).all Option.isSome = true := by simp) (h2 : pin ≤ σ'.objs.length := by simp) : Weak env pin σ σ' :=
  Weak.wk τ hlen hτ hnd (pinsT hp h1 h2) hs ho
theorem retQ.mk {n : Nat} {rs : List ResultVar} {res : AVal} {objs' : List (Option AObj)} {e : Exit} {vs : List AVal} (τ : List Nat) (h1 : wkSlots (tau τ) (hasObj objs') [pack vs] [res]) (h2 : wkObjs (tau τ) (hasObj objs') σ 0 objs') (hv : ares env σ rs = some vs := by rfl) (he : e = .ret ∨ e = .normal := by first | exact .inl rfl | exact .inr rfl)
    (hp : ∀ k, k < n → tau τ k = k := by first | decide | (simp only [List.length_cons, List.length_nil]; decide)) (hd : τ.Nodup := by decide) (hl : objs'.length ≤ τ.length := by simp) : retQ env n rs res objs' e σ := ⟨he, vs, τ, hv, h1, h2, hp, hd, hl⟩
theorem panQ.mk {n : Nat} {x : Value} {objs' : List (Option AObj)} {e : Exit} (τ : List Nat) (h2 : wkObjs (tau τ) (hasObj objs') σ 0 objs') (he : e = .panic (oneP x) := by rfl)
    (hp : ∀ k, k < n → tau τ k = k := by first | decide | (simp only [List.length_cons, List.length_nil]; decide)) (hd : τ.Nodup := by decide) (hl : objs'.length ≤ τ.length := by simp) : panQ n x objs' e σ := ⟨he, τ, h2, hp, hd, hl⟩
end Go.Abs
namespace Go.Abs
open Go
variable {P : Program} {env : Env} {pin : Nat} {σ : St} {Q : Exit → St → Prop}
end Go.Abs
namespace Go.Abs
open Go
abbrev Ext (w w' : World) : Prop := Go.RowKit.Below w.heap.size w w'
theorem Ext.refl (w : World) : Ext w w := Go.RowKit.Below.refl _ w
theorem ext_cell {w w' : World} (h : Ext w w') {b i : Nat} {u : Value} (hc : w.cell? ⟨b, i, none⟩ = some u) : w'.cell? ⟨b, i, none⟩ = some u := by
  have hb : b < w.heap.size := by
    unfold World.cell? at hc
    rcases Nat.lt_or_ge b w.heap.size with h' | h'
    · exact h'
    · simp [Array.getElem?_eq_none h'] at hc
  unfold World.cell? at hc ⊢
  simp only [h.block b hb] at *
  exact hc
theorem AC.ofCalls {P : Program} {gl : Nat → Option (List PVal)} {f : FuncId} {ps : List PVal} {res : AVal}
    (h : ∀ (w : World) (M : Mem) (vs : List Value), vs.length = ps.length → (∀ i, i < ps.length → Rd M (ps.getD i .nilptr) (vs.getD i undef)) → (∀ b i u, M b i = some u → w.cell? ⟨b, i, none⟩ = some u) →
      GOK ⟨fun _ => none, gl, fun _ => 0, 0⟩ M → (∀ b cs, gl b = some cs → cs ≠ [] → ∃ vals T l, w.heap[b]? = some (.cells vals T l) ∧ vals.size = cs.length) → Calls P f vs.toArray w fun e w' => ∃ v, e = .returned v ∧ (∀ g D M', V g D M' res v) ∧ Ext w w') :
    AC P gl f (ps.map .pv) [] res [] := by
  intro w M g vargs hR hG
  have hl : vargs.length = ps.length := by simpa using hR.size
  refine Calls.mono (h w M vargs hl (fun i hi => ?_) hR.sat hG.1 (fun b cs hb hne => (hG.2 b cs hb hne).2)) ?_
  · have := hR.slots i (by simpa using hi)
    have e1 : St.slot ⟨ps.map .pv, []⟩ i = .pv (ps.getD i .nilptr) := by simp [St.slot, List.getD, hi]
    rw [e1] at this
    have e2 : vargs.toArray.getD i undef = vargs.getD i undef := by simp [List.getD]
    rw [← e2]
    exact this.pv_inv
  · rintro e w' ⟨v, rfl, hv, hx⟩
    refine ⟨v, g, M, rfl, ⟨rfl, rfl, fun i hi => ?_, fun id o ho => by simp [St.obj] at ho, fun id id' o o' b ho => by simp [St.obj] at ho, fun id o b ho => by simp [St.obj] at ho, fun b i u hu => ext_cell hx (hR.sat b i u hu), Mem.le_refl _, fun _ _ _ _ => rfl, hx.size, fun b hb _ => hx.block b hb, fun id o b ho => by simp [St.obj] at ho, hx.os, hx.tape, hx.output⟩, fun id hid => by simp [hasObj] at hid⟩
    have hi0 : i = 0 := by simpa using hi
    subst hi0
    exact hv _ _ _
theorem V_int (g : Gh) (D : Nat → Prop) (M : Mem) (k : IntKind) (n : Int) : V g D M (.pv (.int k n)) (.int k n) := .pv (.int k n)
theorem V_str (g : Gh) (D : Nat → Prop) (M : Mem) (s : List UInt8) : V g D M (.pv (.str s)) (.string ⟨s.toArray⟩) := .pv (.str s)
theorem V_tup2 {g : Gh} {D : Nat → Prop} {M : Mem} {a b : AVal} {x y : Value} (h1 : V g D M a x) (h2 : V g D M b y) : V g D M (.tup [a, b]) (.tuple #[x, y]) :=
  .tup [a, b] [x, y] rfl (fun i hi => by
    match i, hi with
    | 0, _ => exact h1
    | 1, _ => exact h2)
end Go.Abs
namespace Go.Abs
open Go Go.Proofs Go.Shelf Go.RowKit
def Place (w : World) (v v' : Value) : Prop := v'.ownBlock = v.ownBlock ∨ ∃ g, v'.ownBlock = some g ∧ w.heap.size ≤ g
structure AppR (w : World) (e : TypeId) (v v' : Value) (n : Nat) (xs : List Value) (w' : World) : Prop where
  own : w'.ownsRow 0 e 1 v' n xs
  grow : w.grownBy w' v.ownBlock
  place : Place w v v'
section
variable {P : Program} (w : World)
theorem app_str (t u ty e : TypeId) (i : TypeInfo) (ht : P.underlying t = some (.slice e)) (hu : P.underlying u = some .string) (hi : P.info? e = some i) (hz : i.zero = some (.int .u8 0))
    (hsize : i.size = 1) (hby : i.bytes = 1) (v : Value) (n : Nat) (xs : List Value) (hown : w.ownsRow 0 e 1 v n xs) (s : ByteArray) (hbytes : n + s.size ≤ 140737488355328) :
    ∃ v' w', (Builtin.append_ #[t, u] ty #[v, .string s]).run P w = .ok v' w' ∧ AppR w e v v' (n + s.size) (xs ++ Lib.strCells s) w' := by
  obtain ⟨v', w', hr, h2, h3, h4⟩ := Lib.run_append_own_string (P := P) w 0 t u ty e i ht hu hi hz hsize hby v n xs hown s (by unfold maxLen; omega) hbytes (Nat.zero_le _)
  refine ⟨v', w', hr, h2, h3, ?_⟩
  have hxl : xs.length = n := by simpa using hown.1
  rcases hown.2 with ⟨rfl, rfl⟩ | ⟨g, cap, cur, rfl, hbg, hg, hnc, hcm, hcs, htake⟩
  · by_cases hm : s.size = 0
    · have := h4.2 ⟨rfl, hm⟩
      subst this
      exact .inl rfl
    · have hr2 := run_append_nil_string (P := P) w t u ty e i (.int .u8 0) ht hu hi hz s (by omega) (by omega) (by rw [hby]; omega)
      rw [hr] at hr2
      injection hr2 with h5 h6
      exact .inr ⟨w.heap.size, by rw [h5]; rfl, Nat.le_refl _⟩
  · by_cases hroom : n + s.size ≤ cap
    · have hcs' : cur.size = cap := by simpa using hcs
      have hr2 := Lib.run_append_room_string (P := P) w t u ty e i ht hu hi hsize g n cap cur hg s hroom (by omega)
      rw [hr] at hr2
      injection hr2 with h5 h6
      exact .inl (by rw [h5]; rfl)
    · have holds : ∀ j u, xs[j]? = some u → w.cell? ((⟨g, 0, none⟩ : Addr).add j) = some u := hown.cells (g := g) rfl
      have hr2 := Lib.run_append_grow_string (P := P) w t u ty e i (.int .u8 0) ht hu hi hz ⟨g, 0, none⟩ n cap xs (by rw [hsize]; simpa using hxl) holds s (by omega) (by omega) (by rw [hby]; exact growslice_fits (by omega) (by omega))
      rw [hr] at hr2
      injection hr2 with h5 h6
      exact .inr ⟨w.heap.size, by rw [h5]; rfl, Nat.le_refl _⟩
theorem app_byte (t ty e : TypeId) (i : TypeInfo) (ht : P.underlying t = some (.slice e)) (hi : P.info? e = some i) (hz : i.zero = some (.int .u8 0))
    (hsize : i.size = 1) (hby : i.bytes = 1) (v : Value) (n : Nat) (xs : List Value) (hown : w.ownsRow 0 e 1 v n xs) (a : Addr) (c : Nat) (x : Value) (hx : w.cell? (a.add 0) = some x) (h1 : x.oneCell' = true) (hbytes : n + 1 ≤ 140737488355328) :
    ∃ v' w', (Builtin.append_ #[t, t] ty #[v, .slice (some a) 1 c]).run P w = .ok v' w' ∧ AppR w e v v' (n + 1) (xs ++ [x]) w' := by
  have hnews : ∀ j u, [x][j]? = some u → w.cell? (a.add j) = some u := by
    intro j u hj
    match j, hj with
    | 0, hj => simp at hj; subst hj; exact hx
  have hone : ∀ u ∈ [x], u.oneCell' = true := by intro u hu; simp at hu; subst hu; exact h1
  obtain ⟨v', w', hr, h2, h3, h4⟩ := run_append_own (P := P) w 0 t ty e i (.int .u8 0) 1 1 ht hi hz hsize hby rfl (by decide) v n xs hown a 1 c [x] rfl hnews hone (by unfold maxLen; omega) (by omega) (Nat.zero_le _)
  refine ⟨v', w', hr, h2, h3, ?_⟩
  have hxl : xs.length = n := by simpa using hown.1
  rcases hown.2 with ⟨rfl, rfl⟩ | ⟨g, cap, cur, rfl, hbg, hg, hnc, hcm, hcs, htake⟩
  · have hr2 := run_append_nil (P := P) w t ty e i (.int .u8 0) ht hi hz a 1 c [x] (by rw [hsize]; rfl) hnews (by omega) (by omega) (by rw [hby]; omega)
    rw [hr] at hr2
    injection hr2 with h5 h6
    exact .inr ⟨w.heap.size, by rw [h5]; rfl, Nat.le_refl _⟩
  · have hcs' : cur.size = cap := by simpa using hcs
    by_cases hroom : n + 1 ≤ cap
    · have hr2 := run_append_room (P := P) w t ty e i ht hi g n cap cur hg a 1 c [x] (by rw [hsize]; rfl) hnews hone hroom (by rw [hsize]; simp; omega)
      rw [hr] at hr2
      injection hr2 with h5 h6
      exact .inl (by rw [h5]; rfl)
    · have holds : ∀ j u, xs[j]? = some u → w.cell? ((⟨g, 0, none⟩ : Addr).add j) = some u := hown.cells (g := g) rfl
      have hr2 := run_append_grow (P := P) w t ty e i (.int .u8 0) ht hi hz ⟨g, 0, none⟩ n cap xs (by rw [hsize]; simpa using hxl) holds a 1 c [x] (by rw [hsize]; rfl) hnews (by omega) (by omega) (by rw [hby]; exact growslice_fits (by omega) (by omega))
      rw [hr] at hr2
      injection hr2 with h5 h6
      exact .inr ⟨w.heap.size, by rw [h5]; rfl, Nat.le_refl _⟩
theorem wpList_app {ops : Array Oper} {rest : List Oper} {o : Oper} {a : Act} {Q : Exit → Act → World → Prop} (hgd : o.guard = none) (sl x : Operand) (t u : TypeId)
    (ho : o.op = .call { callee := .builtin .append, args := #[sl, x], argTypes := #[t, u] }) (v y : Value) (hs : a.eval sl = v) (hx : a.eval x = y) {R : Value → World → Prop}
    (hr : ∃ v' w', (Builtin.append_ #[t, u] o.type #[v, y]).run P w = .ok v' w' ∧ R v' w')
    (h : ∀ v' w', R v' w' → wpList P ops Q rest (a.put o.dst v') w') : wpList P ops Q (o :: rest) a w := by
  refine wpList_plain hgd fun K hK => ?_
  obtain ⟨v', w', hr, h2⟩ := hr
  unfold Oper.wp execOp
  simp only [ho, resolve, invoke, builtin, Sem.run_bind, Sem.run_pure, Result.andThen_ok, List.map_toArray, List.map_cons, List.map_nil, hs, hx, hr]
  exact hK _ _ (h v' w' h2)
end
structure BPost (T e b : Nat) (w w' : World) (v v' : Value) (bs : List Value) : Prop where
  head : w'.heap[b]? = some (.cells #[.pointer (some ⟨b, 0, none⟩), v'] T (0, 0))
  own : w'.ownsRow 0 e 1 v' bs.length bs
  place : Place w v v'
  frame : ∀ k, k < w.heap.size → k ≠ b → v.ownBlock ≠ some k → w'.heap[k]? = w.heap[k]?
  size : w.heap.size ≤ w'.heap.size
  os : w'.os = w.os
  tape : w'.tape = w.tape
  output : w'.output = w.output
section
variable {P : Program} {ρ : Ren}
theorem bCheck (L : Lays.n240 P ρ) (X : Builder.X72 P ρ) (b : Nat) (p v : Value) (w : World) (hbk : w.heap[b]? = some (.cells #[p, v] (ρ.t 72) (0, 0))) (hp : p = .pointer none ∨ p = .pointer (some ⟨b, 0, none⟩)) :
    Calls P (ρ.f 240) #[.pointer (some ⟨b, 0, none⟩)] w fun e w1 => e = .returned (.tuple #[]) ∧ (w1.heap[b]? = some (.cells #[.pointer (some ⟨b, 0, none⟩), v] (ρ.t 72) (0, 0)) ∧ w.grownBy w1 (some b) ∧ w1.heap.size = w.heap.size) := by
  have h0 : w.cell? ⟨b, 0, none⟩ = some p := by rw [Lib.cell_of_heap hbk]; rfl
  rcases hp with rfl | rfl
  · refine (Any.Builder_copyCheck_fresh L X b w h0 (by simp [World.shape?, hbk]) (Lib.frozen_of_heap hbk 0)).mono ?_
    rintro e w' ⟨rfl, rfl⟩
    refine ⟨rfl, by simp [World.setCell, Array.getElem?_modify, hbk], ⟨rfl, rfl, rfl, by simp [World.setCell], fun k _ hk => Below.heap_setCell _ _ _ _ (fun e => hk (by simp [e]))⟩, by simp [World.setCell]⟩
  · refine (Any.Builder_copyCheck_used L X b w h0).mono ?_
    rintro e w' ⟨rfl, rfl⟩
    exact ⟨rfl, hbk, ⟨rfl, rfl, rfl, Nat.le_refl _, fun _ _ _ => rfl⟩, rfl⟩
set_option maxHeartbeats 2000000 in
set_option maxRecDepth 100000 in
theorem bWriteString (L : Lays.n166 P ρ) (X : Builder.Extra P ρ) (b : Nat) (p v : Value) (bs : List Value) (s : ByteArray) (w : World) (hbk : w.heap[b]? = some (.cells #[p, v] (ρ.t 72) (0, 0))) (hp : p = .pointer none ∨ p = .pointer (some ⟨b, 0, none⟩))
    (hown : w.ownsRow 0 (ρ.t 5) 1 v bs.length bs) (hlen : bs.length + s.size ≤ 140737488355328) :
    Calls P (ρ.f 166) #[.pointer (some ⟨b, 0, none⟩), .string s] w fun e w' => e = .returned (.tuple #[.int .i64 s.size, .nilIface]) ∧ ∃ v', BPost (ρ.t 72) (ρ.t 5) b w w' v v' (bs ++ Lib.strCells s) := by
  obtain ⟨i0, hi, hz0, hz1, hz2⟩ := info_parts X.infoByte
  have hne : v.ownBlock ≠ some b := Lib.ownBlock_ne hown hbk X.neB5
  have hlt : b < w.heap.size := by
    rcases Nat.lt_or_ge b w.heap.size with h' | h'
    · exact h'
    · simp [Array.getElem?_eq_none h'] at hbk
  have mixed := L.mixed
  have t72 := L.t72; have a72 := L.a72; have z72 := L.z72; have v72 := L.v72; have u72 := run_underlying L.t72
  have t70 := L.t70; have a70 := L.a70; have z70 := L.z70; have v70 := L.v70; have u70 := run_underlying L.t70
  have t37 := L.t37; have a37 := L.a37; have z37 := L.z37; have v37 := L.v37; have u37 := run_underlying L.t37
  have t3 := L.t3; have a3 := L.a3; have z3 := L.z3; have v3 := L.v3; have u3 := run_underlying L.t3
  have t9 := L.t9; have a9 := L.a9; have z9 := L.z9; have v9 := L.v9; have u9 := run_underlying L.t9
  have t4 := L.t4; have a4 := L.a4; have z4 := L.z4; have v4 := L.v4; have u4 := run_underlying L.t4
  have t164 := L.t164; have a164 := L.a164; have z164 := L.z164; have v164 := L.v164; have u164 := run_underlying L.t164
  have t5 := X.t5; have a5 := X.a5; have z5 := X.z5; have v5 := X.v5; have u5 := run_underlying X.t5
  have e240 : ∀ args w, (callFunc (ρ.f 240) args).run P w = .ok (.enter (ρ.f 240) args) w := enters_of L.f240 (by kernel_rfl) rfl
  go_enter L.f166, Body.n166_ntmps ρ
  go_wp2_with (go_at_fn (ρ.f 240); refine (bCheck { L with } X.toX72 b p v _ hbk hp).mono ?_)
  rintro e w1 ⟨rfl, hbk1, hg1, hs1⟩
  have HS : Hid (w1.heap.size = w.heap.size) := hs1
  clear hs1
  have hown1 := hown.kept hg1 (Or.inr hne)
  have c0 : w1.cell? ⟨b, 0, none⟩ = some (.pointer (some ⟨b, 0, none⟩)) := by rw [Lib.cell_of_heap hbk1]; rfl
  have c1 : w1.cell? ⟨b, 1, none⟩ = some v := by rw [Lib.cell_of_heap hbk1]; rfl
  go_wp2_with (at_builtin; refine wpList_app _ rfl _ _ (ρ.t 37) (ρ.t 9) rfl v (.string s) rfl rfl (app_str w1 (ρ.t 37) (ρ.t 9) _ (ρ.t 5) i0 L.t37 L.t9 hi hz0 hz1 hz2 v bs.length bs hown1 s hlen) ?_)
  rintro v' w2 hR
  have hs1 := HS.out
  have hown' := hR.own
  have hgrow := hR.grow
  have hpl := hR.place
  clear hR
  have hb2 : w2.heap[b]? = some (.cells #[.pointer (some ⟨b, 0, none⟩), v] (ρ.t 72) (0, 0)) := by
    rw [hgrow.block b (by omega) (fun e => hne e.symm)]
    exact hbk1
  have d0 : w2.cell? ⟨b, 0, none⟩ = some (.pointer (some ⟨b, 0, none⟩)) := by rw [Lib.cell_of_heap hb2]; rfl
  have d1 : w2.cell? ⟨b, 1, none⟩ = some v := by rw [Lib.cell_of_heap hb2]; rfl
  have f1 : w2.frozen? ⟨b, 1, none⟩ = false := Lib.frozen_of_heap hb2 1
  have hne' : v'.ownBlock ≠ some b := Lib.ownBlock_ne hown' hb2 X.neB5
  obtain ⟨ao, n', cap, rfl⟩ : ∃ ao n' cap, v' = .slice ao n' cap := by
    rcases hown'.2 with ⟨hv, _⟩ | ⟨g, cap, cur, hv, _⟩
    · exact ⟨_, _, _, hv⟩
    · exact ⟨_, _, _, hv⟩
  clear hs1
  go_wp2
  go_ret2
  have hs1 := HS.out
  refine ⟨rfl, .slice ao n' cap, ?_⟩
  refine ⟨by simp [World.setCell, Array.getElem?_modify, hb2], ?_, ?_, ?_, ?_, ?_, ?_, ?_⟩
  · have := hown'.kept (row := some b) (w' := w2.setCell ⟨b, 1, none⟩ (.slice ao n' cap)) ⟨rfl, rfl, rfl, by simp [World.setCell], fun k _ hk => Below.heap_setCell _ _ _ _ (fun e => hk (by simp [e]))⟩ (Or.inr hne')
    simpa [Lib.strCells_length] using this
  · rcases hpl with h | ⟨g, h, hh⟩
    · exact .inl h
    · exact .inr ⟨g, h, by omega⟩
  · intro k hk hkb hkv
    rw [Below.heap_setCell _ _ _ _ hkb, hgrow.block k (by omega) (fun e => hkv e.symm), hg1.block k hk (by simpa using hkb)]
  · have := hgrow.size; simp [World.setCell]; omega
  · exact hgrow.os.trans hg1.os
  · exact hgrow.tape.trans hg1.tape
  · exact hgrow.output.trans hg1.output
set_option maxHeartbeats 2000000 in
set_option maxRecDepth 100000 in
theorem bWriteByte (L : Lays.n167 P ρ) (X : Builder.Extra P ρ) (b : Nat) (p v : Value) (bs : List Value) (c : Int) (w : World) (hbk : w.heap[b]? = some (.cells #[p, v] (ρ.t 72) (0, 0))) (hp : p = .pointer none ∨ p = .pointer (some ⟨b, 0, none⟩))
    (hown : w.ownsRow 0 (ρ.t 5) 1 v bs.length bs) (hlen : bs.length + 1 ≤ 140737488355328) :
    Calls P (ρ.f 167) #[.pointer (some ⟨b, 0, none⟩), .int .u8 c] w fun e w' => e = .returned .nilIface ∧ ∃ v', BPost (ρ.t 72) (ρ.t 5) b w w' v v' (bs ++ [.int .u8 c]) := by
  obtain ⟨i0, hi, hz0, hz1, hz2⟩ := info_parts X.infoByte
  have hne : v.ownBlock ≠ some b := Lib.ownBlock_ne hown hbk X.neB5
  have hlt : b < w.heap.size := by
    rcases Nat.lt_or_ge b w.heap.size with h' | h'
    · exact h'
    · simp [Array.getElem?_eq_none h'] at hbk
  have mixed := L.mixed
  have t72 := L.t72; have a72 := L.a72; have z72 := L.z72; have v72 := L.v72; have u72 := run_underlying L.t72
  have t70 := L.t70; have a70 := L.a70; have z70 := L.z70; have v70 := L.v70; have u70 := run_underlying L.t70
  have t5 := L.t5; have a5 := L.a5; have z5 := L.z5; have v5 := L.v5; have u5 := run_underlying L.t5
  have t37 := L.t37; have a37 := L.a37; have z37 := L.z37; have v37 := L.v37; have u37 := run_underlying L.t37
  have t9 := L.t9; have a9 := L.a9; have z9 := L.z9; have v9 := L.v9; have u9 := run_underlying L.t9
  have t4 := L.t4; have a4 := L.a4; have z4 := L.z4; have v4 := L.v4; have u4 := run_underlying L.t4
  have t164 := L.t164; have a164 := L.a164; have z164 := L.z164; have v164 := L.v164; have u164 := run_underlying L.t164
  have e240 : ∀ args w, (callFunc (ρ.f 240) args).run P w = .ok (.enter (ρ.f 240) args) w := enters_of L.f240 (by kernel_rfl) rfl
  go_enter L.f167, Body.n167_ntmps ρ
  go_wp2_with (go_at_fn (ρ.f 240); refine (bCheck { L with } X.toX72 b p v _ hbk hp).mono ?_)
  rintro e w1 ⟨rfl, hbk1, hg1, hs1⟩
  have HS : Hid (w1.heap.size = w.heap.size) := hs1
  clear hs1
  have hown1 := hown.kept hg1 (Or.inr hne)
  have c0 : w1.cell? ⟨b, 0, none⟩ = some (.pointer (some ⟨b, 0, none⟩)) := by rw [Lib.cell_of_heap hbk1]; rfl
  have c1 : w1.cell? ⟨b, 1, none⟩ = some v := by rw [Lib.cell_of_heap hbk1]; rfl
  go_wp2_with (at_builtin; refine wpList_app _ rfl _ _ (ρ.t 37) (ρ.t 37) rfl v (.slice (some ⟨w1.heap.size, 0, none⟩) 1 1) rfl rfl (app_byte _ (ρ.t 37) _ (ρ.t 5) i0 L.t37 hi hz0 hz1 hz2 v bs.length bs (hown1.alloc _) ⟨w1.heap.size, 0, none⟩ 1 (.int .u8 c) ?cx rfl hlen) ?_)
  case cx => simp [Addr.add]
  rintro v' w2 hR
  have hs1 := HS.out
  have hown' := hR.own
  have hgrow := hR.grow
  have hpl := hR.place
  clear hR
  have hb2 : w2.heap[b]? = some (.cells #[.pointer (some ⟨b, 0, none⟩), v] (ρ.t 72) (0, 0)) := by
    rw [hgrow.block b (by simp; omega) (fun e => hne e.symm), Lib.alloc_old w1 _ b (by omega)]
    exact hbk1
  have d0 : w2.cell? ⟨b, 0, none⟩ = some (.pointer (some ⟨b, 0, none⟩)) := by rw [Lib.cell_of_heap hb2]; rfl
  have d1 : w2.cell? ⟨b, 1, none⟩ = some v := by rw [Lib.cell_of_heap hb2]; rfl
  have f1 : w2.frozen? ⟨b, 1, none⟩ = false := Lib.frozen_of_heap hb2 1
  have hne' : v'.ownBlock ≠ some b := Lib.ownBlock_ne hown' hb2 X.neB5
  obtain ⟨g, cap, rfl⟩ : ∃ g cap, v' = .slice (some ⟨g, 0, none⟩) (bs.length + 1) cap := by
    rcases hown'.2 with ⟨_, h0⟩ | ⟨g, cap, cur, hv, _⟩
    · omega
    · exact ⟨g, cap, hv⟩
  clear hs1
  go_wp2
  go_ret
  have hs1 := HS.out
  refine ⟨rfl, .slice (some ⟨g, 0, none⟩) (bs.length + 1) cap, ?_⟩
  refine ⟨by simp [World.setCell, Array.getElem?_modify, hb2], ?_, ?_, ?_, ?_, ?_, ?_, ?_⟩
  · have := hown'.kept (row := some b) (w' := w2.setCell ⟨b, 1, none⟩ (.slice (some ⟨g, 0, none⟩) (bs.length + 1) cap)) ⟨rfl, rfl, rfl, by simp [World.setCell], fun k _ hk => Below.heap_setCell _ _ _ _ (fun e => hk (by simp [e]))⟩ (Or.inr hne')
    simpa using this
  · rcases hpl with h | ⟨g', h, hh⟩
    · exact .inl h
    · exact .inr ⟨g', h, by simp at hh; omega⟩
  · intro k hk hkb hkv
    rw [Below.heap_setCell _ _ _ _ hkb, hgrow.block k (by simp; omega) (fun e => hkv e.symm), Lib.alloc_old w1 _ k (by omega), hg1.block k hk (by simpa using hkb)]
  · have := hgrow.size; simp at this; simp [World.setCell]; omega
  · exact hgrow.os.trans hg1.os
  · exact hgrow.tape.trans hg1.tape
  · exact hgrow.output.trans hg1.output
theorem grownBy_freeze (w : World) (g n : Nat) : w.grownBy (w.drew.freeze ⟨g, 0, none⟩ n) (some g) := by
  unfold World.freeze
  split
  · exact ⟨rfl, rfl, rfl, Nat.le_refl _, fun _ _ _ => rfl⟩
  · exact ⟨rfl, rfl, rfl, by rw [Array.size_modify]; exact Nat.le_refl _, fun k _ hk => by
      simp only [Array.getElem?_modify]
      rw [if_neg (fun e => hk (by simp [e]))]
      rfl⟩
set_option maxHeartbeats 1000000 in
set_option maxRecDepth 100000 in
theorem bString1 (L : Lays.n169 P ρ) (X : Builder.Extra P ρ) (b : Nat) (p v : Value) (l : List UInt8) (w : World) (hbk : w.heap[b]? = some (.cells #[p, v] (ρ.t 72) (0, 0)))
    (hown : w.ownsRow 0 (ρ.t 5) 1 v l.length (Lib.byteCells l)) (h0 : l ≠ []) :
    Calls P (ρ.f 169) #[.pointer (some ⟨b, 0, none⟩)] w fun e w' => e = .returned (.string ⟨l.toArray⟩) ∧ w.grownBy w' v.ownBlock := by
  have hl0 : l.length ≠ 0 := by simpa using h0
  obtain ⟨g, cap, cur, rfl, hbg, hg, hnc, hcm, hcs, htake⟩ : ∃ g cap cur, v = .slice (some ⟨g, 0, none⟩) l.length cap ∧ 0 ≤ g ∧ w.heap[g]? = some (.cells cur (ρ.t 5) (0, 0)) ∧ l.length ≤ cap ∧ cap ≤ maxLen ∧ cur.size = cap * 1 ∧ cur.toList.take (l.length * 1) = Lib.byteCells l := by
    rcases hown.2 with ⟨_, hz⟩ | ⟨g, cap, cur, hv, r⟩
    · exact absurd hz hl0
    · exact ⟨g, cap, cur, hv, r⟩
  have c1 : w.drew.cell? ⟨b, 1, none⟩ = some (.slice (some ⟨g, 0, none⟩) l.length cap) := by
    have : w.drew.heap[b]? = some (.cells #[p, .slice (some ⟨g, 0, none⟩) l.length cap] (ρ.t 72) (0, 0)) := hbk
    rw [Lib.cell_of_heap this]; rfl
  have hSD : (Builtin.unsafeSliceData_ #[(ρ.t 37)] (ρ.t 127) #[.slice (some ⟨g, 0, none⟩) l.length cap]).run P w.drew = .ok (.pointer (some ⟨g, 0, none⟩)) w.drew :=
    Lib.run_unsafeSliceData_row _ _ _ _ _ _ (by omega)
  have hUS : (Builtin.unsafeString_ #[(ρ.t 127), (ρ.t 3)] (ρ.t 9) #[.pointer (some ⟨g, 0, none⟩), .int .i64 l.length]).run P w.drew = .ok (.string ⟨l.toArray⟩) (w.drew.freeze ⟨g, 0, none⟩ l.length) := by
    refine Lib.run_unsafeString_row w.drew (ρ.t 127) (ρ.t 3) (ρ.t 9) (ρ.t 5) L.t127 X.cellsByte g cur.size (by have hg' : w.drew.heap[g]? = some (.cells cur (ρ.t 5) (0, 0)) := hg; simp [World.shape?, hg']) l h0 (by omega) (by unfold maxLen at hcm; omega) ?_
    intro j x hx
    have := hown.cells (g := g) rfl j (.int .u8 x.toNat) (by simp [Lib.byteCells, hx])
    exact this
  have HG := grownBy_freeze w g l.length
  have mixed := L.mixed
  have t72 := L.t72; have a72 := L.a72; have z72 := L.z72; have v72 := L.v72; have u72 := run_underlying L.t72
  have t70 := L.t70; have a70 := L.a70; have z70 := L.z70; have v70 := L.v70; have u70 := run_underlying L.t70
  have t37 := L.t37; have a37 := L.a37; have z37 := L.z37; have v37 := L.v37; have u37 := run_underlying L.t37
  have t127 := L.t127; have a127 := L.a127; have z127 := L.z127; have v127 := L.v127; have u127 := run_underlying L.t127
  have t3 := L.t3; have a3 := L.a3; have z3 := L.z3; have v3 := L.v3; have u3 := run_underlying L.t3
  have t9 := L.t9; have a9 := L.a9; have z9 := L.z9; have v9 := L.v9; have u9 := run_underlying L.t9
  have t5 := X.t5; have a5 := X.a5; have z5 := X.z5; have v5 := X.v5; have u5 := run_underlying X.t5
  go_enter L.f169, Body.n169_ntmps ρ
  go_wp2
  go_region_o
  all_goals (go_wp2; go_ret; exact ⟨rfl, HG⟩)
theorem bString (L : Lays.n169 P ρ) (X : Builder.Extra P ρ) (b : Nat) (p v : Value) (l : List UInt8) (w : World) (hbk : w.heap[b]? = some (.cells #[p, v] (ρ.t 72) (0, 0)))
    (hown : w.ownsRow 0 (ρ.t 5) 1 v l.length (Lib.byteCells l)) :
    Calls P (ρ.f 169) #[.pointer (some ⟨b, 0, none⟩)] w fun e w' => e = .returned (.string ⟨l.toArray⟩) ∧ w.grownBy w' v.ownBlock := by
  have fin : ∀ {w' : World}, Below w.heap.size w w' → w.grownBy w' v.ownBlock := fun h => ⟨h.os, h.tape, h.output, h.size, fun k hk _ => h.block k hk⟩
  cases l with
  | nil =>
    rcases hown.2 with ⟨rfl, _⟩ | ⟨g, cap, cur, rfl, hbg, hg, _, _, _, _⟩
    · exact (Any.Builder_String_nil L X w.heap.size b p w hbk).mono (fun _ _ h => ⟨h.1, fin h.2⟩)
    · by_cases hc0 : cap = 0
      · subst hc0
        exact (Any.Builder_String_noroom L X w.heap.size b g p cur w (Nat.le_refl _) hbk hg).mono (fun _ _ h => ⟨h.1, fin h.2⟩)
      · exact (Any.Builder_String_room L X w.heap.size b g cap p w hc0 hbk).mono (fun _ _ h => ⟨h.1, fin h.2⟩)
  | cons x r => exact bString1 L X b p v (x :: r) w hbk hown (by simp)
end
/-! ### Contracts -/
theorem bb_owns {g : Gh} {D : Nat → Prop} {M : Mem} {w : World} {e id : Nat} {t : List UInt8} (h : OR g D M w id (.bb e t)) : w.ownsRow 0 e 1 (bufV g id t.length) t.length (byteVs t) := by
  refine ⟨by simp [byteVs], ?_⟩
  unfold bufV
  cases hν : g.ν id with
  | true => exact .inl ⟨by simp, by rw [h.1 hν]; rfl⟩
  | false =>
    obtain ⟨cur, h1, h2, h3, h4, h5⟩ := h.2 hν
    exact .inr ⟨g.ρ id, g.κ id, cur, by simp, Nat.zero_le _, h1, h2, h3, by omega, by simpa using h5⟩
theorem bufV_own (g : Gh) (B n : Nat) (k : Nat) : (bufV g B n).ownBlock = some k → g.ν B = false ∧ g.ρ B = k := by
  unfold bufV
  cases hν : g.ν B <;> simp [Value.ownBlock]
theorem list3 {a b c : AObj} {id : Nat} {o : AObj} (h : [some a, some b, some c].getD id none = some o) : (id = 0 ∧ o = a) ∨ (id = 1 ∧ o = b) ∨ (id = 2 ∧ o = c) := by
  match id, h with
  | 0, h => simp at h; exact .inl ⟨rfl, h.symm⟩
  | 1, h => simp at h; exact .inr (.inl ⟨rfl, h.symm⟩)
  | 2, h => simp at h; exact .inr (.inr ⟨rfl, h.symm⟩)
  | n + 3, h => simp [List.getD] at h
theorem AC.bwrite {P : Program} {gl : Nat → Option (List PVal)} {f : FuncId} {T e : Nat} {t s : List UInt8} {q : PVal} {res : AVal} (hTe : T ≠ e)
    (h : ∀ (w : World) (b : Nat) (p v y : Value) (M : Mem), Rd M q y → w.heap[b]? = some (.cells #[p, v] T (0, 0)) → (p = .pointer none ∨ p = .pointer (some ⟨b, 0, none⟩)) → w.ownsRow 0 e 1 v t.length (byteVs t) →
      Calls P f #[.pointer (some ⟨b, 0, none⟩), y] w fun en w' => ∃ r v', en = .returned r ∧ (∀ g D M', V g D M' res r) ∧ BPost T e b w w' v v' (byteVs s)) :
    AC P gl f [.ref 0 0, .pv q] [some (.bh T e 1 t.length), some (.bb e t)] res [some (.bh T e 2 s.length), some .dead, some (.bb e s)] := by
  intro w M g vargs hR hG
  have hl : vargs.length = 2 := by simpa using hR.size
  match vargs, hl with
  | [x0, x1], _ =>
    have h0 : V g _ M (.ref 0 0) x0 := hR.slots 0 (by simp)
    have h1 : V g _ M (.pv q) x1 := hR.slots 1 (by simp)
    have h1 := h1.pv_inv
    obtain ⟨hD, hn0, p, hheap, hp⟩ : OR g _ M w 0 (.bh T e 1 t.length) := hR.objs 0 _ rfl
    have hbb : OR g _ M w 1 (.bb e t) := hR.objs 1 _ rfl
    have hown := bb_owns hbb
    cases h0
    refine Calls.mono (h w (g.ρ 0) p (bufV g 1 t.length) x1 M h1 hheap hp hown) ?_
    rintro en w' ⟨r, v', rfl, hv, hB⟩
    have hne' : v'.ownBlock ≠ some (g.ρ 0) := Lib.ownBlock_ne hB.own hB.head hTe
    have hlt : g.ρ 0 < w.heap.size := (Array.getElem?_eq_some_iff.1 hheap).1
    have hso : (byteVs s).length = s.length := by simp [byteVs]
    obtain ⟨r2, k2, n2, hbuf, hs0, hs1, hpl, hr0⟩ : ∃ (r2 k2 : Nat) (n2 : Bool), v' = (if n2 then .slice none 0 0 else .slice (some ⟨r2, 0, none⟩) s.length k2) ∧ (n2 = true → s = []) ∧
        (n2 = false → ∃ cur, w'.heap[r2]? = some (.cells cur e (0, 0)) ∧ s.length ≤ k2 ∧ k2 ≤ 9223372036854775807 ∧ cur.size = k2 ∧ cur.toList.take s.length = byteVs s) ∧
        (n2 = false → (g.ν 1 = false ∧ g.ρ 1 = r2) ∨ w.heap.size ≤ r2) ∧ (n2 = false → r2 ≠ g.ρ 0) := by
      rcases hB.own.2 with ⟨hv', hn⟩ | ⟨g2, cap, cur, hv', _, hg2, hnc, hcm, hcs, htake⟩
      · exact ⟨0, 0, true, by simpa using hv', fun _ => List.eq_nil_of_length_eq_zero (by omega), by simp, by simp, by simp⟩
      · rw [hso] at hv' hnc htake
        refine ⟨g2, cap, false, by simpa using hv', by simp, fun _ => ⟨cur, hg2, hnc, hcm, by omega, by simpa using htake⟩, fun _ => ?_, fun _ hc => hne' (by rw [hv', hc]; rfl)⟩
        have ho : v'.ownBlock = some g2 := by rw [hv']; rfl
        rcases hB.place with h' | ⟨g3, h', hh⟩
        · rw [ho] at h'
          exact .inl (bufV_own g 1 _ _ h'.symm)
        · rw [ho] at h'
          injection h' with h'
          exact .inr (by omega)
    have hsat : ∀ b i u, M b i = some u → w'.cell? ⟨b, i, none⟩ = some u := by
      intro b i u hu
      have hc := hR.sat b i u hu
      have hb : b < w.heap.size := World.block_lt_of_cell? w ⟨b, i, none⟩ hc
      have e1 : b ≠ g.ρ 0 := fun hbe => by
        have := hR.offM 0 (.bh T e 1 t.length) b rfl (by simp [owns, hbe]) i
        rw [this] at hu; cases hu
      have e2 : (bufV g 1 t.length).ownBlock ≠ some b := fun hbe => by
        obtain ⟨hν, hρ⟩ := bufV_own g 1 _ _ hbe
        have := hR.offM 1 (.bb e t) b rfl (by simp [owns, hν, hρ]) i
        rw [this] at hu; cases hu
      exact (World.cell?_of_block (w := w) (w' := w') (a := ⟨b, i, none⟩) (hB.frame b hb e1 e2)).trans hc
    have hoffN : ∀ b i, w.heap.size ≤ b → M b i = none := by
      intro b i hb
      cases hm : M b i with
      | none => rfl
      | some u =>
        have := World.block_lt_of_cell? w ⟨b, i, none⟩ (hR.sat b i u hm)
        simp at this
        omega
    refine ⟨r, ⟨fun id => if id = 2 then r2 else g.ρ id, fun id => if id = 2 then k2 else g.κ id, fun id => if id = 2 then n2 else g.ν id⟩, M, rfl, ⟨rfl, rfl, fun i hi => ?_, fun id o ho => ?_, fun id id' o o' b ho ho' hb hb' => ?_, fun id o b ho hb i => ?_, hsat, Mem.le_refl _, fun _ _ _ _ => rfl, hB.size, fun b hb hnb => ?_, fun id o b ho hb => ?_, hB.os, hB.tape, hB.output⟩, fun id hid => ?_⟩
    · have hi0 : i = 0 := by simpa using hi
      subst hi0
      exact hv _ _ _
    · rcases list3 ho with ⟨rfl, rfl⟩ | ⟨rfl, rfl⟩ | ⟨rfl, rfl⟩
      · refine ⟨by simp [St.dom, St.obj], fun hν => by rw [hs0 (by simpa using hν)]; rfl, .pointer (some ⟨g.ρ 0, 0, none⟩), ?_, .inr (by simp)⟩
        have hh := hB.head
        rw [hbuf] at hh
        simpa [bufV] using hh
      · trivial
      · exact ⟨fun hν => hs0 (by simpa using hν), fun hν => by simpa using hs1 (by simpa using hν)⟩
    · rcases list3 ho with ⟨rfl, rfl⟩ | ⟨rfl, rfl⟩ | ⟨rfl, rfl⟩ <;> rcases list3 ho' with ⟨rfl, rfl⟩ | ⟨rfl, rfl⟩ | ⟨rfl, rfl⟩
      · rfl
      · simp [owns] at hb'
      · exfalso
        simp [owns] at hb hb'
        exact hr0 hb'.1 (by omega)
      · simp [owns] at hb
      · rfl
      · simp [owns] at hb
      · exfalso
        simp [owns] at hb hb'
        exact hr0 hb.1 (by omega)
      · simp [owns] at hb'
      · rfl
    · rcases list3 ho with ⟨rfl, rfl⟩ | ⟨rfl, rfl⟩ | ⟨rfl, rfl⟩
      · exact hR.offM 0 (.bh T e 1 t.length) b rfl (by simpa [owns] using hb) i
      · simp [owns] at hb
      · simp [owns] at hb
        rcases hpl hb.1 with ⟨hν, hρ⟩ | hge
        · exact hR.offM 1 (.bb e t) b rfl (by simp [owns, hν]; omega) i
        · exact hoffN b i (by omega)
    · have e1 : b ≠ g.ρ 0 := fun hbe => hnb ⟨0, _, rfl, by simp [owns, hbe]⟩
      have e2 : (bufV g 1 t.length).ownBlock ≠ some b := fun hbe => by
        obtain ⟨hν, hρ⟩ := bufV_own g 1 _ _ hbe
        exact hnb ⟨1, _, rfl, by simp [owns, hν, hρ]⟩
      exact hB.frame b hb e1 e2
    · rcases list3 ho with ⟨rfl, rfl⟩ | ⟨rfl, rfl⟩ | ⟨rfl, rfl⟩
      · exact .inl ⟨0, _, rfl, by simpa [owns] using hb⟩
      · simp [owns] at hb
      · simp [owns] at hb
        rcases hpl hb.1 with ⟨hν, hρ⟩ | hge
        · exact .inl ⟨1, _, rfl, by simp [owns, hν]; omega⟩
        · exact .inr (show w.heap.size ≤ b by omega)
    · have : id ≠ 2 := fun he => by subst he; simp [hasObj] at hid
      simp [Gh.agree, this]
theorem list2 {a b : AObj} {id : Nat} {o : AObj} (h : [some a, some b].getD id none = some o) : (id = 0 ∧ o = a) ∨ (id = 1 ∧ o = b) := by
  match id, h with
  | 0, h => simp at h; exact .inl ⟨rfl, h.symm⟩
  | 1, h => simp at h; exact .inr ⟨rfl, h.symm⟩
  | n + 2, h => simp [List.getD] at h
theorem AC.bstring {P : Program} {gl : Nat → Option (List PVal)} {f : FuncId} {T e : Nat} {t : List UInt8}
    (h : ∀ (w : World) (b : Nat) (p v : Value), w.heap[b]? = some (.cells #[p, v] T (0, 0)) → w.ownsRow 0 e 1 v t.length (byteVs t) →
      Calls P f #[.pointer (some ⟨b, 0, none⟩)] w fun en w' => en = .returned (.string ⟨t.toArray⟩) ∧ w.grownBy w' v.ownBlock) :
    AC P gl f [.ref 0 0] [some (.bh T e 1 t.length), some (.bb e t)] (.pv (.str t)) [some .dead, some .dead] := by
  intro w M g vargs hR hG
  have hl : vargs.length = 1 := by simpa using hR.size
  match vargs, hl with
  | [x0], _ =>
    have h0 : V g _ M (.ref 0 0) x0 := hR.slots 0 (by simp)
    obtain ⟨hD, hn0, p, hheap, hp⟩ : OR g _ M w 0 (.bh T e 1 t.length) := hR.objs 0 _ rfl
    have hbb : OR g _ M w 1 (.bb e t) := hR.objs 1 _ rfl
    have hown := bb_owns hbb
    cases h0
    refine Calls.mono (h w (g.ρ 0) p (bufV g 1 t.length) hheap hown) ?_
    rintro en w' ⟨rfl, hB⟩
    have hsat : ∀ b i u, M b i = some u → w'.cell? ⟨b, i, none⟩ = some u := by
      intro b i u hu
      have hc := hR.sat b i u hu
      have hb : b < w.heap.size := World.block_lt_of_cell? w ⟨b, i, none⟩ hc
      have e2 : (bufV g 1 t.length).ownBlock ≠ some b := fun hbe => by
        obtain ⟨hν, hρ⟩ := bufV_own g 1 _ _ hbe
        have := hR.offM 1 (.bb e t) b rfl (by simp [owns, hν, hρ]) i
        rw [this] at hu; cases hu
      exact (World.cell?_of_block (w := w) (w' := w') (a := ⟨b, i, none⟩) (hB.block b hb (fun e => e2 e.symm))).trans hc
    refine ⟨_, g, M, rfl, ⟨rfl, rfl, fun i hi => ?_, fun id o ho => ?_, fun id id' o o' b ho ho' hb hb' => ?_, fun id o b ho hb i => ?_, hsat, Mem.le_refl _, fun _ _ _ _ => rfl, hB.size, fun b hb hnb => ?_, fun id o b ho hb => ?_, hB.os, hB.tape, hB.output⟩, fun id hid => ⟨rfl, rfl, rfl⟩⟩
    · have hi0 : i = 0 := by simpa using hi
      subst hi0
      exact V_str _ _ _ _
    · rcases list2 ho with ⟨rfl, rfl⟩ | ⟨rfl, rfl⟩ <;> trivial
    · rcases list2 ho with ⟨rfl, rfl⟩ | ⟨rfl, rfl⟩ <;> simp [owns] at hb
    · rcases list2 ho with ⟨rfl, rfl⟩ | ⟨rfl, rfl⟩ <;> simp [owns] at hb
    · exact hB.block b hb (fun hbe => by
        obtain ⟨hν, hρ⟩ := bufV_own g 1 _ _ hbe.symm
        exact hnb ⟨1, _, rfl, by simp [owns, hν, hρ]⟩)
    · rcases list2 ho with ⟨rfl, rfl⟩ | ⟨rfl, rfl⟩ <;> simp [owns] at hb
theorem strCells_eq (s : List UInt8) : Lib.strCells ⟨s.toArray⟩ = byteVs s := by simp [Lib.strCells, byteVs]
theorem byteVs_append (a b : List UInt8) : byteVs (a ++ b) = byteVs a ++ byteVs b := by simp [byteVs]
section
variable {P : Program} {ρ : Ren} {gl : Nat → Option (List PVal)}
theorem AC.bString (L : Lays.n169 P ρ) (X : Builder.Extra P ρ) (t : List UInt8) :
    AC P gl (ρ.f 169) [.ref 0 0] [some (.bh (ρ.t 72) (ρ.t 5) 1 t.length), some (.bb (ρ.t 5) t)] (.pv (.str t)) [some .dead, some .dead] :=
  AC.bstring fun w b p v hbk hown => Go.Abs.bString L X b p v t w hbk hown
end
end Go.Abs
namespace Go.Abs
open Go Go.Proofs Go.Shelf Go.RowKit
def splitF (c : UInt8) : List UInt8 → List (List UInt8)
  | [] => [[]]
  | x :: r => if x = c then [] :: splitF c r else match splitF c r with
    | [] => [[x]]
    | h :: t => (x :: h) :: t
theorem splitF_ne (c : UInt8) : ∀ s, splitF c s ≠ []
  | [] => by simp [splitF]
  | x :: r => by
    unfold splitF
    split
    · simp
    · split <;> simp
theorem splitF_none (c : UInt8) : ∀ s, c ∉ s → splitF c s = [s]
  | [], _ => rfl
  | x :: r, h => by
    have h1 : x ≠ c := fun e => h (by simp [e])
    rw [splitF, if_neg h1, splitF_none c r (fun e => h (by simp [e]))]
theorem splitF_hit (c : UInt8) (r : List UInt8) : ∀ a, c ∉ a → splitF c (a ++ c :: r) = a :: splitF c r
  | [], _ => by simp [splitF]
  | x :: a, h => by
    have h1 : x ≠ c := fun e => h (by simp [e])
    rw [List.cons_append, splitF, if_neg h1, splitF_hit c r a (fun e => h (by simp [e]))]
theorem splitB_eq (c : UInt8) : ∀ (n : Nat) (s : ByteArray), s.size ≤ n → (Lib.splitB ⟨#[c]⟩ 0 (Lib.countB s ⟨#[c]⟩) s).map (fun b => b.data.toList) = splitF c s.data.toList := by
  intro n
  induction n with
  | zero =>
    intro s hs
    have e : s.data.toList = [] := List.eq_nil_of_length_eq_zero (by rw [Array.length_toList]; exact Nat.le_zero.1 hs)
    have hi : Lib.indexB s ⟨#[c]⟩ = -1 := by
      show Lib.index _ _ = _
      rw [e]; rfl
    rw [Lib.splitB_miss _ _ _ _ hi, e]
    simp [e, splitF]
  | succ n ih =>
    intro s hs
    have h1 : Lib.index s.data.toList [c] = Lib.indexByte s.data.toList c := Lib.index_one _ _
    have hge := Lib.indexByte_ge s.data.toList c
    by_cases hm : Lib.indexByte s.data.toList c = -1
    · have hi : Lib.indexB s ⟨#[c]⟩ = -1 := h1.trans hm
      rw [Lib.splitB_miss _ _ _ _ hi]
      have hno : c ∉ s.data.toList := fun hc => by
        obtain ⟨k, hk, he⟩ := List.getElem_of_mem hc
        exact Lib.indexByte_none hm k (by rw [List.getElem?_eq_getElem hk, he])
      rw [splitF_none c _ hno]
      rfl
    · obtain ⟨i, hi⟩ : ∃ i : Nat, Lib.indexByte s.data.toList c = i := ⟨(Lib.indexByte s.data.toList c).toNat, by omega⟩
      have hB : Lib.indexB s ⟨#[c]⟩ = i := h1.trans hi
      obtain ⟨hc, hno⟩ := Lib.indexByte_some hi
      obtain ⟨hlt, hce⟩ := List.getElem?_eq_some_iff.1 hc
      rw [Lib.countB_hit s ⟨#[c]⟩ i (Nat.le_refl 1) hB, Nat.add_comm, Lib.splitB_hit _ _ _ _ i hB]
      have hd : s.data.toList = s.data.toList.take i ++ c :: s.data.toList.drop (i + 1) := by
        rw [← hce, List.getElem_cons_drop, List.take_append_drop]
      have hnc : c ∉ s.data.toList.take i := fun hm' => by
        obtain ⟨k, hk, he⟩ := List.getElem_of_mem hm'
        have hk' : k < i := by simp at hk; omega
        refine hno k hk' ?_
        rw [List.getElem_take] at he
        rw [List.getElem?_eq_getElem (by omega), he]
      conv => rhs; rw [hd, splitF_hit c _ _ hnc]
      rw [List.map_cons, ih (s.extract (i + (ByteArray.mk #[c]).size) s.size) (by simp [ByteArray.size_extract]; have : (ByteArray.mk #[c]).size = 1 := rfl; omega)]
      congr 1
      · simp [ByteArray.data_extract]
      · rw [Lib.extract_to_end]
        rfl
theorem AC.ofTexts {P : Program} {gl : Nat → Option (List PVal)} {f : FuncId} {ps : List PVal} {us : List (List UInt8)}
    (h : ∀ (w : World) (M : Mem) (vs : List Value), vs.length = ps.length → (∀ i, i < ps.length → Rd M (ps.getD i .nilptr) (vs.getD i undef)) → (∀ b i u, M b i = some u → w.cell? ⟨b, i, none⟩ = some u) →
      GOK ⟨fun _ => none, gl, fun _ => 0, 0⟩ M → (∀ b cs, gl b = some cs → cs ≠ [] → ∃ vals T l, w.heap[b]? = some (.cells vals T l) ∧ vals.size = cs.length) →
      Calls P f vs.toArray w fun e w' => ∃ T, e = .returned (.slice (some ⟨w.heap.size, 0, none⟩) us.length us.length) ∧ w' = w.alloc (.cells (us.map fun s => Value.string ⟨s.toArray⟩).toArray T)) :
    AC P gl f (ps.map .pv) [] (.pv (.slice (us.map fun s => [.str s]))) [] := by
  intro w M g vargs hR hG
  have hl : vargs.length = ps.length := by simpa using hR.size
  refine Calls.mono (h w M vargs hl (fun i hi => ?_) hR.sat hG.1 (fun b cs hb hne => (hG.2 b cs hb hne).2)) ?_
  · have := hR.slots i (by simpa using hi)
    have e1 : St.slot ⟨ps.map .pv, []⟩ i = .pv (ps.getD i .nilptr) := by simp [St.slot, List.getD, hi]
    rw [e1] at this
    have e2 : vargs.toArray.getD i undef = vargs.getD i undef := by simp [List.getD]
    rw [← e2]
    exact this.pv_inv
  · rintro e w' ⟨T, rfl, rfl⟩
    have hoff : ∀ i, M w.heap.size i = none := by
      intro i
      cases hm : M w.heap.size i with
      | none => rfl
      | some u =>
        have := World.block_lt_of_cell? w ⟨w.heap.size, i, none⟩ (hR.sat _ i u hm)
        simp at this
    have hx : Ext w (w.alloc (.cells (us.map fun s => Value.string ⟨s.toArray⟩).toArray T)) := (Below.refl _ w).alloc (Nat.le_refl _) _
    refine ⟨_, g, fun b i => if b = w.heap.size then (us[i]?).map (fun s => Value.string ⟨s.toArray⟩) else M b i, rfl, ⟨rfl, rfl, fun i hi => ?_, fun id o ho => by simp [St.obj] at ho, fun id id' o o' b ho => by simp [St.obj] at ho, fun id o b ho => by simp [St.obj] at ho, fun b i u hu => ?_, fun b i u hu => ?_, fun b i hb _ => ?_, hx.size, fun b hb _ => hx.block b hb, fun id o b ho => by simp [St.obj] at ho, hx.os, hx.tape, hx.output⟩, fun id hid => by simp [hasObj] at hid⟩
    · have hi0 : i = 0 := by simpa using hi
      subst hi0
      have hlen : us.length = (us.map fun s => [PVal.str s]).length := by simp
      refine .pv ?_
      have := Rd.slice (M := fun b i => if b = w.heap.size then (us[i]?).map (fun s => Value.string ⟨s.toArray⟩) else M b i) (us.map fun s => [PVal.str s]) 1 w.heap.size 0 us.length (fun i _ => Value.string ⟨(us.getD i []).toArray⟩) (fun x hx => by simp at hx; obtain ⟨s, _, rfl⟩ := hx; rfl) (fun i j hi hj => ?_) (fun i j hi hj => ?_) (by simp)
      · rw [List.length_map] at this
        exact this
      · have hj0 : j = 0 := by omega
        subst hj0
        have hi' : i < us.length := by simpa using hi
        simp [List.getD, hi']
      · have hj0 : j = 0 := by omega
        subst hj0
        have hi' : i < us.length := by simpa using hi
        have : pcell (us.map fun s => [PVal.str s]) i 0 = .str (us.getD i []) := by simp [pcell, List.getD, hi']
        rw [this]
        exact .str _
    · by_cases hb : b = w.heap.size
      · subst hb
        simp only [if_pos] at hu
        rw [Option.map_eq_some_iff] at hu
        obtain ⟨s, hs, rfl⟩ := hu
        rw [Lib.cell_of_heap (heap_alloc_new w _)]
        simp [hs]
      · simp only [if_neg hb] at hu
        exact ext_cell hx (hR.sat b i u hu)
    · show (if b = w.heap.size then _ else M b i) = _
      rw [if_neg (fun hb => by subst hb; have h0 := hoff i; exact absurd (h0.symm.trans hu) (by simp))]
      exact hu
    · show (if b = w.heap.size then _ else M b i) = _
      rw [if_neg (by have : b < w.heap.size := hb; omega)]
end Go.Abs
namespace Go.Abs
open Go
structure VarD where
  name : List UInt8
  size : Int
  init : Int
def encVar (v : VarD) : List PVal := [.str v.name, .int .i64 v.size, .int .i64 v.init]
inductive Ex where
  | mk (op value : Int) (name : List UInt8) (slot size : Int) (args : List Ex)
def Ex.op : Ex → Int | .mk a _ _ _ _ _ => a
def Ex.value : Ex → Int | .mk _ a _ _ _ _ => a
def Ex.name : Ex → List UInt8 | .mk _ _ a _ _ _ => a
def Ex.slot : Ex → Int | .mk _ _ _ a _ _ => a
def Ex.size : Ex → Int | .mk _ _ _ _ a _ => a
def Ex.args : Ex → List Ex | .mk _ _ _ _ _ a => a
mutual
def encEx : Ex → List PVal
  | .mk op value name slot size args => [.int .i64 op, .int .i64 value, .str name, .int .i64 slot, .int .i64 size, .slice (encExs args)]
def encExs : List Ex → List (List PVal)
  | [] => []
  | e :: r => encEx e :: encExs r
end
theorem encExs_map : ∀ l : List Ex, encExs l = l.map encEx
  | [] => by simp [encExs]
  | e :: r => by simp [encExs, encExs_map r]
theorem encEx_eq (e : Ex) : encEx e = [.int .i64 e.op, .int .i64 e.value, .str e.name, .int .i64 e.slot, .int .i64 e.size, .slice (e.args.map encEx)] := by
  cases e; simp [encEx, encExs_map, Ex.op, Ex.value, Ex.name, Ex.slot, Ex.size, Ex.args]
theorem encEx_length (e : Ex) : (encEx e).length = 6 := by rw [encEx_eq]; rfl
inductive Sm where
  | mk (kind : Int) (name : List UInt8) (slot size : Int) (place value : Ex) (body els : List Sm)
def Sm.kind : Sm → Int | .mk a _ _ _ _ _ _ _ => a
def Sm.name : Sm → List UInt8 | .mk _ a _ _ _ _ _ _ => a
def Sm.slot : Sm → Int | .mk _ _ a _ _ _ _ _ => a
def Sm.size : Sm → Int | .mk _ _ _ a _ _ _ _ => a
def Sm.place : Sm → Ex | .mk _ _ _ _ a _ _ _ => a
def Sm.value : Sm → Ex | .mk _ _ _ _ _ a _ _ => a
def Sm.body : Sm → List Sm | .mk _ _ _ _ _ _ a _ => a
def Sm.els : Sm → List Sm | .mk _ _ _ _ _ _ _ a => a
mutual
def encSm : Sm → List PVal
  | .mk kind name slot size place value body els => [.int .i64 kind, .str name, .int .i64 slot, .int .i64 size] ++ encEx place ++ encEx value ++ [.slice (encSms body), .slice (encSms els)]
def encSms : List Sm → List (List PVal)
  | [] => []
  | e :: r => encSm e :: encSms r
end
theorem encSms_map : ∀ l : List Sm, encSms l = l.map encSm
  | [] => by simp [encSms]
  | e :: r => by simp [encSms, encSms_map r]
theorem encSm_eq (s : Sm) : encSm s = [.int .i64 s.kind, .str s.name, .int .i64 s.slot, .int .i64 s.size,
    .int .i64 s.place.op, .int .i64 s.place.value, .str s.place.name, .int .i64 s.place.slot, .int .i64 s.place.size, .slice (s.place.args.map encEx),
    .int .i64 s.value.op, .int .i64 s.value.value, .str s.value.name, .int .i64 s.value.slot, .int .i64 s.value.size, .slice (s.value.args.map encEx),
    .slice (s.body.map encSm), .slice (s.els.map encSm)] := by
  cases s; simp [encSm, encSms_map, encEx_eq, Sm.kind, Sm.name, Sm.slot, Sm.size, Sm.place, Sm.value, Sm.body, Sm.els]
theorem encSm_length (s : Sm) : (encSm s).length = 18 := by rw [encSm_eq]; rfl
abbrev mx := imax
mutual
def szE : Ex → Nat
  | .mk _ _ _ _ _ args => 1 + szEs args
def szEs : List Ex → Nat
  | [] => 0
  | e :: r => szE e + szEs r
end
theorem szE_eq (e : Ex) : szE e = 1 + szEs e.args := by cases e; rfl
theorem szE_pos (e : Ex) : 1 ≤ szE e := by rw [szE_eq]; omega
theorem szEs_len : ∀ l : List Ex, l.length ≤ szEs l
  | [] => by simp
  | e :: r => by have := szEs_len r; have := szE_pos e; simp only [szEs, List.length_cons]; omega
theorem szEs_mem : ∀ (l : List Ex) (e : Ex), e ∈ l → szE e ≤ szEs l
  | [], _, h => by cases h
  | x :: r, e, h => by
    simp only [szEs]
    rcases List.mem_cons.1 h with rfl | h
    · omega
    · have := szEs_mem r e h; omega
mutual
def szS : Sm → Nat
  | .mk _ _ _ _ place value body els => 1 + szE place + szE value + szSs body + szSs els
def szSs : List Sm → Nat
  | [] => 0
  | e :: r => szS e + szSs r
end
theorem szS_eq (s : Sm) : szS s = 1 + szE s.place + szE s.value + szSs s.body + szSs s.els := by cases s; rfl
theorem szS_pos (s : Sm) : 1 ≤ szS s := by rw [szS_eq]; omega
theorem szSs_len : ∀ l : List Sm, l.length ≤ szSs l
  | [] => by simp
  | e :: r => by have := szSs_len r; have := szS_pos e; simp only [szSs, List.length_cons]; omega
theorem szSs_mem : ∀ (l : List Sm) (e : Sm), e ∈ l → szS e ≤ szSs l
  | [], _, h => by cases h
  | x :: r, e, h => by
    simp only [szSs]
    rcases List.mem_cons.1 h with rfl | h
    · omega
    · have := szSs_mem r e h; omega
mutual
def depE : Ex → Int
  | .mk _ _ _ _ _ args => 1 + depEs 0 args
def depEs : Int → List Ex → Int
  | d, [] => d
  | d, e :: r => depEs (mx d (depE e)) r
end
theorem depE_eq (e : Ex) : depE e = 1 + depEs 0 e.args := by cases e; rfl
mutual
theorem depE_pos : ∀ e : Ex, 1 ≤ depE e
  | .mk _ _ _ _ _ args => by simp only [depE]; have := depEs_le 0 args; omega
theorem depEs_le : ∀ (d : Int) (l : List Ex), d ≤ depEs d l
  | d, [] => by simp [depEs]
  | d, e :: r => by
    have h1 := depEs_le (mx d (depE e)) r
    have h2 : d ≤ mx d (depE e) := by unfold mx imax; split <;> omega
    simp only [depEs]; omega
end
theorem depEs_snoc (x : Ex) : ∀ (l : List Ex) (d : Int), depEs d (l ++ [x]) = mx (depEs d l) (depE x)
  | [], d => by simp [depEs]
  | e :: r, d => by simp only [List.cons_append, depEs]; exact depEs_snoc x r _
mutual
def depS : Sm → Int
  | .mk _ _ _ _ place value body els => 1 + mx (mx (mx (depE place) (depE value)) (depSs 0 body)) (depSs 0 els)
def depSs : Int → List Sm → Int
  | d, [] => d
  | d, s :: r => depSs (mx d (depS s)) r
end
theorem depS_eq (s : Sm) : depS s = 1 + mx (mx (mx (depE s.place) (depE s.value)) (depSs 0 s.body)) (depSs 0 s.els) := by cases s; rfl
theorem depSs_snoc (x : Sm) : ∀ (l : List Sm) (d : Int), depSs d (l ++ [x]) = mx (depSs d l) (depS x)
  | [], d => by simp [depSs]
  | e :: r, d => by simp only [List.cons_append, depSs]; exact depSs_snoc x r _
theorem mx_l (x y : Int) : x ≤ mx x y := by unfold mx imax; split <;> omega
theorem depS_pos (s : Sm) : 1 ≤ depS s := by
  rw [depS_eq]
  have h1 := depE_pos s.place
  have h2 := mx_l (depE s.place) (depE s.value)
  have h3 := mx_l (mx (depE s.place) (depE s.value)) (depSs 0 s.body)
  have h4 := mx_l (mx (mx (depE s.place) (depE s.value)) (depSs 0 s.body)) (depSs 0 s.els)
  omega
mutual
theorem depE_sz : ∀ e : Ex, depE e ≤ szE e
  | .mk _ _ _ _ _ args => by simp only [depE, szE]; have := depEs_sz 0 args; unfold mx imax at this; split at this <;> omega
theorem depEs_sz : ∀ (d : Int) (l : List Ex), depEs d l ≤ mx d (szEs l)
  | d, [] => by simp only [depEs, szEs]; exact mx_l _ _
  | d, e :: r => by
    have h1 := depEs_sz (mx d (depE e)) r
    have h2 := depE_sz e
    simp only [depEs, szEs]
    unfold mx imax at *
    split at h1 <;> split at h1 <;> split <;> omega
end
mutual
theorem depS_sz : ∀ s : Sm, depS s ≤ szS s
  | .mk _ _ _ _ place value body els => by
    have h1 := depE_sz place
    have h2 := depE_sz value
    have h3 := depSs_sz 0 body
    have h4 := depSs_sz 0 els
    have p1 := szE_pos place
    simp only [depS, szS]
    generalize depE place = a at *
    generalize depE value = b at *
    generalize depSs 0 body = c at *
    generalize depSs 0 els = d at *
    unfold mx imax at *
    split at h3 <;> split at h4 <;> (repeat' split) <;> omega
theorem depSs_sz : ∀ (d : Int) (l : List Sm), depSs d l ≤ mx d (szSs l)
  | d, [] => by simp only [depSs, szSs]; exact mx_l _ _
  | d, e :: r => by
    have h1 := depSs_sz (mx d (depS e)) r
    have h2 := depS_sz e
    simp only [depSs, szSs]
    generalize depSs (mx d (depS e)) r = q at *
    unfold mx imax at *
    split at h1 <;> split at h1 <;> split <;> omega
end
end Go.Abs
namespace Go.Abs
open Go
def letterF (n : Int) : Bool := (decide (n ≥ 97) && decide (n ≤ 122)) || (decide (n ≥ 65) && decide (n ≤ 90)) || n == 95
def digitF (n : Int) : Bool := decide (n ≥ 48) && decide (n ≤ 57)
def isW (c : UInt8) : Bool := letterF c.toNat || digitF c.toNat
def wordF (s : List UInt8) (a : Nat) : Nat := a + ((s.drop a).takeWhile isW).length
def resF (s : List UInt8) : Bool := s == [118, 97, 114] || s == [97, 114, 114, 97, 121] || s == [111, 110] || s == [115, 116, 97, 114, 116] || s == [109, 101, 115, 115, 97, 103, 101] || s == [116, 105, 99, 107] || s == [105, 110, 112, 117, 116] || s == [105, 102] || s == [101, 108, 115, 101] || s == [119, 104, 105, 108, 101] || s == [115, 101, 110, 100] || s == [111, 117, 116, 112, 117, 116] || s == [115, 101, 108, 102] || s == [112, 114, 111, 99, 115] || s == [102, 114, 111, 109] || s == [118, 97, 108, 117, 101]
def validF (s : List UInt8) : Bool := !(s == [] || decide ((s.length : Int) > 16) || !letterF (s.getD 0 0).toNat) && (((wordF s 0 : Nat) : Int) == (s.length : Int) && !resF s)
structure PgD where
  vars : List VarD
  start : List Sm
  message : List Sm
  tick : List Sm
  input : List Sm
def pgA (p : PgD) : AVal := .agg [.pv (.slice (p.vars.map encVar)), .pv (.slice (p.start.map encSm)), .pv (.slice (p.message.map encSm)), .pv (.slice (p.tick.map encSm)), .pv (.slice (p.input.map encSm))]
def szP (p : PgD) : Nat := szSs p.start + szSs p.message + szSs p.tick + szSs p.input + p.vars.length
def depP (p : PgD) : Int := mx (mx (mx (depSs 0 p.start) (depSs 0 p.message)) (depSs 0 p.tick)) (depSs 0 p.input)
def goodVarF (v : VarD) : Bool := if !validF v.name || decide (v.size < 0) then false else if v.size != 0 && v.init != 0 then false else v.init != -9223372036854775808
def checkF (g : List Sm → Bool) (p : PgD) : Int :=
  if depP p > 16 then 6 else if p.vars.any (fun v => !goodVarF v) then 7 else if !g p.start || !g p.message || !g p.tick || !g p.input then 7 else 0
theorem validF_long (s : List UInt8) (h : 16 < s.length) : validF s = false := by
  have : (s.length : Int) > 16 := by omega
  simp [validF, this]
def arityF (op : Int) : Int := if op < 1 ∨ op > 22 then -1 else if op ≥ 10 then 2 else if op = 3 ∨ op = 8 ∨ op = 9 then 1 else 0
def goodNameF (name : List UInt8) (m : Bool) : Bool := if m then validF name else name == []
def zeroEF (e : Ex) : Bool := e.op == 0 && e.value == 0 && e.name == [] && e.slot == 0 && e.size == 0 && e.args.length == 0
def headEF (op value : Int) (name : List UInt8) (slot size : Int) (n : Nat) : Bool :=
  arityF op == (n : Int) && slot == 0 && size == 0 && !(decide (value < 0) || (value != 0 && op != 1)) && goodNameF name (op == 2 || op == 3)
mutual
def goodEF : Ex → Bool
  | .mk op value name slot size args => headEF op value name slot size args.length && goodEFs args
def goodEFs : List Ex → Bool
  | [] => true
  | e :: r => goodEF e && goodEFs r
end
theorem goodEF_eq (e : Ex) : goodEF e = (headEF e.op e.value e.name e.slot e.size e.args.length && goodEFs e.args) := by cases e; simp [goodEF, Ex.op, Ex.value, Ex.name, Ex.slot, Ex.size, Ex.args]
def headSF (kind : Int) (name : List UInt8) (slot size : Int) (place : Ex) (nb ne : Nat) : Bool :=
  decide (kind ≥ 1) && decide (kind ≤ 6) && slot == 0 && size == 0 && goodNameF name (kind == 1 || kind == 2) &&
  (if kind == 2 || kind == 5 then goodEF place else zeroEF place) && !(decide (nb > 0) && kind != 3 && kind != 4) && !(decide (ne > 0) && kind != 3)
mutual
def goodSF : Sm → Bool
  | .mk kind name slot size place value body els => headSF kind name slot size place body.length els.length && (goodEF value && goodSFs body && goodSFs els)
def goodSFs : List Sm → Bool
  | [] => true
  | e :: r => goodSF e && goodSFs r
end
theorem goodSF_eq (s : Sm) : goodSF s = (headSF s.kind s.name s.slot s.size s.place s.body.length s.els.length && (goodEF s.value && goodSFs s.body && goodSFs s.els)) := by cases s; simp [goodSF, Sm.kind, Sm.name, Sm.slot, Sm.size, Sm.place, Sm.value, Sm.body, Sm.els]
end Go.Abs
namespace Go.Abs
open Go
structure TkD where
  kind : Int
  text : List UInt8
  value : Int
  pos : Int
def encTk (t : TkD) : List PVal := [.int .i64 t.kind, .str t.text, .int .i64 t.value, .int .i64 t.pos]
def tk0 : TkD := ⟨0, [], 0, 0⟩
def runF (p : UInt8 → Bool) (s : List UInt8) (a : Nat) : Nat := a + ((s.drop a).takeWhile p).length
theorem runF_end (p : UInt8 → Bool) (s : List UInt8) (a : Nat) (h : s.length ≤ a) : runF p s a = a := by
  simp [runF, List.drop_eq_nil_of_le h]
theorem runF_step (p : UInt8 → Bool) (s : List UInt8) (a : Nat) (h : a < s.length) : runF p s a = if p (s.getD a 0) then runF p s (a + 1) else a := by
  unfold runF
  rw [List.drop_eq_getElem_cons h, List.takeWhile_cons]
  have : s.getD a 0 = s[a] := by simp [List.getD, h]
  rw [this]
  split
  · simp; omega
  · simp
theorem runF_ge (p : UInt8 → Bool) (s : List UInt8) (a : Nat) : a ≤ runF p s a := by unfold runF; omega
theorem runF_le (p : UInt8 → Bool) (s : List UInt8) (a : Nat) (h : a ≤ s.length) : runF p s a ≤ s.length := by
  unfold runF
  have h1 : ((s.drop a).takeWhile p).length ≤ (s.drop a).length := (List.takeWhile_sublist p).length_le
  simp at h1
  omega
theorem wordF_run (s : List UInt8) (a : Nat) : wordF s a = runF isW s a := rfl
def isD (c : UInt8) : Bool := digitF c.toNat
def isL (c : UInt8) : Bool := letterF c.toNat
def notLF (c : UInt8) : Bool := c != 10
def isB (c : UInt8) : Bool := c == 9 || c == 10 || c == 13 || c == 32
def cut (s : List UInt8) (a b : Nat) : List UInt8 := (s.take b).drop a
def valA : List UInt8 → Nat → Nat
  | [], acc => acc
  | c :: r, acc => valA r (acc * 10 + (c.toNat - 48))
def valF (l : List UInt8) : Nat := valA l 0
theorem valA_ge : ∀ (l : List UInt8) (acc : Nat), acc ≤ valA l acc
  | [], acc => by rw [valA]; omega
  | c :: r, acc => by have := valA_ge r (acc * 10 + (c.toNat - 48)); rw [valA]; omega
theorem digit_le {c : UInt8} (h : isD c = true) : 48 ≤ c.toNat ∧ c.toNat ≤ 57 := by
  unfold isD digitF at h
  rw [Bool.and_eq_true, decide_eq_true_eq, decide_eq_true_eq] at h
  omega
theorem valA_cons (acc : Nat) (c : UInt8) (r : List UInt8) : valA (c :: r) acc = valA r (acc * 10 + (c.toNat - 48)) := by rw [valA]
theorem parseUintM_eq (M : Nat) (hM : M < 18446744073709551620) : ∀ (l : List UInt8) (acc : Nat), (∀ c ∈ l, isD c = true) → acc ≤ M → Lib.parseUintM M acc l = if valA l acc ≤ M then .ok (valA l acc) else .range
  | [], acc, _, h => by rw [Lib.parseUintM, valA, if_pos h]
  | c :: r, acc, hd, h => by
    have hc := digit_le (hd c List.mem_cons_self)
    have hge := valA_ge r (acc * 10 + (c.toNat - 48))
    rw [Lib.parseUintM, valA_cons, if_pos hc]
    have ih := parseUintM_eq M hM r (acc * 10 + (c.toNat - 48)) (fun x hx => hd x (List.mem_cons_of_mem _ hx))
    generalize hq : acc * 10 + (c.toNat - 48) = q at *
    by_cases h1 : 1844674407370955162 ≤ acc
    · rw [if_pos h1, if_neg (by omega)]
    · rw [if_neg h1]
      by_cases h2 : M < q
      · rw [if_pos h2, if_neg (by omega)]
      · rw [if_neg h2]
        exact ih (by omega)
theorem parseInt_eq (l : List UInt8) (h0 : l ≠ []) (hd : ∀ c ∈ l, isD c = true) : Lib.parseIntB 64 l = if valF l < 9223372036854775808 then .ok (valF l : Int) else .range := by
  cases l with
  | nil => exact absurd rfl h0
  | cons c r =>
    have hc := digit_le (hd c (by simp))
    have e1 : ¬ (c.toNat = 43 ∨ c.toNat = 45) := by omega
    have e2 : ¬ c.toNat = 45 := by omega
    have hp := parseUintM_eq 18446744073709551615 (by omega) (c :: r) 0 hd (by omega)
    simp only [Lib.parseIntB, if_neg e1, Lib.parseUintB]
    rw [if_neg (by simp), show (2 ^ 64 - 1 : Nat) = 18446744073709551615 from rfl, hp]
    have hv0 : valA (c :: r) 0 = valF (c :: r) := rfl
    rw [hv0]
    generalize valF (c :: r) = v
    by_cases h1 : v ≤ 18446744073709551615
    · rw [if_pos h1]
      by_cases h2 : v < 9223372036854775808
      · rw [if_pos h2]
        simp only [e2]
        rw [if_neg (by simp; omega), if_neg (by simp)]
        simp
      · rw [if_neg h2]
        simp only [e2]
        rw [if_pos (by simp; omega)]
    · rw [if_neg h1, if_neg (by omega)]
def signF (c n : Int) : Int :=
  if c == 61 || c == 33 || c == 60 || c == 62 then (if n == 61 then 2 else 1)
  else if c == 40 || c == 41 || c == 123 || c == 125 || c == 91 || c == 93 || c == 44 || c == 59 || c == 43 || c == 45 || c == 42 || c == 47 || c == 37 then 1
  else if (c == 38 || c == 124) && n == c then 2 else 0
def nextB (s : List UInt8) (a : Nat) : Int := if a + 1 < s.length then ((s.getD (a + 1) 0).toNat : Int) else 0
def numEnd (s : List UInt8) (a : Nat) : Nat := if s.getD a 0 = 48 then a + 1 else runF isD s (a + 1)
def numF (s : List UInt8) (a : Nat) : TkD × Int × Int :=
  if runF isW s (numEnd s a) > numEnd s a then (tk0, 0, 1)
  else if valF (cut s a (numEnd s a)) < 9223372036854775808 then (⟨2, [], valF (cut s a (numEnd s a)), a⟩, numEnd s a, 0) else (tk0, 0, 3)
def oneF (s : List UInt8) (a : Nat) : TkD × Int × Int :=
  if isL (s.getD a 0) then (if runF isW s a - a > 16 then (tk0, 0, 5) else (⟨1, cut s a (runF isW s a), 0, a⟩, runF isW s a, 0))
  else if isD (s.getD a 0) then numF s a
  else if signF (s.getD a 0).toNat (nextB s a) = 0 then (tk0, 0, 1)
  else (⟨3, cut s a (a + (signF (s.getD a 0).toNat (nextB s a)).toNat), 0, a⟩, a + signF (s.getD a 0).toNat (nextB s a), 0)
theorem signF_le (c n : Int) : 0 ≤ signF c n ∧ signF c n ≤ 2 := by
  unfold signF
  repeat' split
  all_goals omega
theorem numEnd_le (s : List UInt8) (a : Nat) (h : a < s.length) : a < numEnd s a ∧ numEnd s a ≤ s.length := by
  unfold numEnd
  split
  · omega
  · have := runF_ge isD s (a + 1); have := runF_le isD s (a + 1) (by omega); omega
theorem sign_two {c n : Int} (h : signF c n = 2) : n = 61 ∨ n = 38 ∨ n = 124 := by
  unfold signF at h
  grind
theorem oneF_end (s : List UInt8) (a : Nat) (h : a < s.length) (h0 : (oneF s a).2.2 = 0) : ∃ e : Nat, (oneF s a).2.1 = e ∧ a < e ∧ e ≤ s.length := by
  unfold oneF at h0 ⊢
  split
  · rename_i hl
    rw [if_pos hl] at h0
    have hW : isW (s.getD a 0) = true := by simp [isW]; exact .inl hl
    have h1 := runF_step isW s a h
    rw [hW, if_pos rfl] at h1
    have h2 := runF_ge isW s (a + 1)
    have h3 := runF_le isW s a (by omega)
    split
    · rename_i h16; rw [if_pos h16] at h0; simp at h0
    · exact ⟨_, rfl, by omega, h3⟩
  · rename_i hl
    rw [if_neg hl] at h0
    split
    · rename_i hd
      rw [if_pos hd] at h0
      unfold numF at h0 ⊢
      have h1 := numEnd_le s a h
      split
      · rename_i hw; rw [if_pos hw] at h0; simp at h0
      · rename_i hw
        rw [if_neg hw] at h0
        split
        · exact ⟨_, rfl, h1.1, h1.2⟩
        · rename_i hv; rw [if_neg hv] at h0; simp at h0
    · rename_i hd
      rw [if_neg hd] at h0
      split
      · rename_i hs; rw [if_pos hs] at h0; simp at h0
      · rename_i hs
        have h1 := signF_le (s.getD a 0).toNat (nextB s a)
        refine ⟨a + (signF (s.getD a 0).toNat (nextB s a)).toNat, by show (a : Int) + signF _ _ = _; omega, by omega, ?_⟩
        by_cases h2 : signF (s.getD a 0).toNat (nextB s a) = 2
        · have h3 := sign_two h2
          have : a + 1 < s.length := by
            by_cases h4 : a + 1 < s.length
            · exact h4
            · simp [nextB, h4] at h3
          omega
        · omega
def scanF (s : List UInt8) : Nat → Nat → List TkD → List TkD × Int × Int
  | 0, _, acc => (acc, 0, 0)
  | f + 1, a, acc =>
    if a < s.length then
      if isB (s.getD a 0) then scanF s f (a + 1) acc
      else if s.getD a 0 = 35 then scanF s f (runF notLF s a) acc
      else if (oneF s a).2.2 = 0 then scanF s f (oneF s a).2.1.toNat (acc ++ [(oneF s a).1])
      else ([], a, (oneF s a).2.2)
    else (acc, 0, 0)
def scan (s : List UInt8) : List TkD × Int × Int := if s.length > 4096 then ([], 0, 5) else scanF s (s.length + 1) 0 []
end Go.Abs
namespace Go.Abs
open Go
inductive PR (α : Type) where
  | ok (a : α) (k : Nat)
  | bad (k : Nat)
  | out
def PR.bind {α β : Type} (r : PR α) (f : α → Nat → PR β) : PR β :=
  match r with
  | .ok a k => f a k
  | .bad k => .bad k
  | .out => .out
section
variable (l : List TkD)
def peekF (k : Nat) : List UInt8 := if k < l.length then (l.getD k tk0).text else []
def isT (k : Nat) (s : List UInt8) : Bool := peekF l k == s
def expF (s : List UInt8) (k : Nat) : PR Unit := if isT l k s then .ok () (k + 1) else .bad k
def pnmF (k : Nat) : PR (List UInt8) := if k < l.length ∧ (l.getD k tk0).kind = 1 ∧ validF (l.getD k tk0).text = true then .ok (l.getD k tk0).text (k + 1) else .bad k
def nmF (least : Int) (k : Nat) : PR Int := if k < l.length ∧ (l.getD k tk0).kind = 2 ∧ least ≤ (l.getD k tk0).value then .ok (l.getD k tk0).value (k + 1) else .bad k
def isNum (k : Nat) : Bool := decide (k < l.length) && (l.getD k tk0).kind == 2
def opF (lv : Nat) (s : List UInt8) : Nat :=
  if lv = 0 then (if s == [124, 124] then 22 else 0)
  else if lv = 1 then (if s == [38, 38] then 21 else 0)
  else if lv = 2 then (if s == [60] then 15 else if s == [60, 61] then 16 else if s == [62] then 17 else if s == [62, 61] then 18 else if s == [61, 61] then 19 else if s == [33, 61] then 20 else 0)
  else if lv = 3 then (if s == [43] then 10 else if s == [45] then 11 else 0)
  else if lv = 4 then (if s == [42] then 12 else if s == [47] then 13 else if s == [37] then 14 else 0)
  else 0
def exK (op : Int) : Ex := .mk op 0 [] 0 0 []
def exC (v : Int) : Ex := .mk 1 v [] 0 0 []
def exN (nm : List UInt8) : Ex := .mk 2 0 nm 0 0 []
def exI (nm : List UInt8) (e : Ex) : Ex := .mk 3 0 nm 0 0 [e]
def exU (op : Int) (e : Ex) : Ex := .mk op 0 [] 0 0 [e]
def exB (op : Int) (a b : Ex) : Ex := .mk op 0 [] 0 0 [a, b]
def exZ : Ex := exK 0
inductive Nt where
  | bin (lv : Nat)
  | loop (lv : Nat) (e : Ex)
  | un
  | prim
def exF : Nat → Nt → Nat → PR Ex
  | 0, _, _ => .out
  | n + 1, .bin lv, k => if lv = 5 then exF n .un k else (exF n (.bin (lv + 1)) k).bind fun e k' => exF n (.loop lv e) k'
  | n + 1, .loop lv e, k => if opF lv (peekF l k) = 0 then .ok e k else (exF n (.bin (lv + 1)) (k + 1)).bind fun e2 k2 => exF n (.loop lv (exB (opF lv (peekF l k)) e e2)) k2
  | n + 1, .un, k =>
    if isT l k [45] then (exF n .un (k + 1)).bind fun e k' => .ok (exU 8 e) k'
    else if isT l k [33] then (exF n .un (k + 1)).bind fun e k' => .ok (exU 9 e) k'
    else exF n .prim k
  | n + 1, .prim, k =>
    if isNum l k then (nmF l 0 k).bind fun v k' => .ok (exC v) k'
    else if isT l k [115, 101, 108, 102] then .ok (exK 4) (k + 1)
    else if isT l k [112, 114, 111, 99, 115] then .ok (exK 5) (k + 1)
    else if isT l k [102, 114, 111, 109] then .ok (exK 6) (k + 1)
    else if isT l k [118, 97, 108, 117, 101] then .ok (exK 7) (k + 1)
    else if isT l k [40] then (exF n (.bin 0) (k + 1)).bind fun e k' => (expF l [41] k').bind fun _ k2 => .ok e k2
    else (pnmF l k).bind fun nm k1 => if isT l k1 [91] then (exF n (.bin 0) (k1 + 1)).bind fun e k' => (expF l [93] k').bind fun _ k2 => .ok (exI nm e) k2 else .ok (exN nm) k1
def pexF (k : Nat) : PR Ex := exF l (9 * l.length + 20) (.bin 0) k
inductive Ns where
  | block
  | stmts (acc : List Sm)
  | stmt
def smE (kind : Int) (nm : List UInt8) (place value : Ex) (body els : List Sm) : Sm := .mk kind nm 0 0 place value body els
def smF : Nat → Ns → Nat → PR (List Sm)
  | 0, _, _ => .out
  | n + 1, .block, k => (expF l [123] k).bind fun _ k1 => smF n (.stmts []) k1
  | n + 1, .stmts acc, k => if isT l k [125] then .ok acc (k + 1) else (smF n .stmt k).bind fun s k1 => smF n (.stmts (acc ++ s)) k1
  | n + 1, .stmt, k =>
    if isT l k [105, 102] then (pexF l (k + 1)).bind fun e k1 => (smF n .block k1).bind fun b k2 => if isT l k2 [101, 108, 115, 101] then (smF n .block (k2 + 1)).bind fun c k3 => .ok [smE 3 [] exZ e b c] k3 else .ok [smE 3 [] exZ e b []] k2
    else if isT l k [119, 104, 105, 108, 101] then (pexF l (k + 1)).bind fun e k1 => (smF n .block k1).bind fun b k2 => .ok [smE 4 [] exZ e b []] k2
    else if isT l k [115, 101, 110, 100] then (pexF l (k + 1)).bind fun p k1 => (expF l [44] k1).bind fun _ k2 => (pexF l k2).bind fun e k3 => (expF l [59] k3).bind fun _ k4 => .ok [smE 5 [] p e [] []] k4
    else if isT l k [111, 117, 116, 112, 117, 116] then (pexF l (k + 1)).bind fun e k1 => (expF l [59] k1).bind fun _ k2 => .ok [smE 6 [] exZ e [] []] k2
    else (pnmF l k).bind fun nm k1 =>
      if isT l k1 [91] then (pexF l (k1 + 1)).bind fun p k2 => (expF l [93] k2).bind fun _ k3 => (expF l [61] k3).bind fun _ k4 => (pexF l k4).bind fun e k5 => (expF l [59] k5).bind fun _ k6 => .ok [smE 2 nm p e [] []] k6
      else (expF l [61] k1).bind fun _ k4 => (pexF l k4).bind fun e k5 => (expF l [59] k5).bind fun _ k6 => .ok [smE 1 nm exZ e [] []] k6
def blockF (k : Nat) : PR (List Sm) := smF l (3 * l.length + 20) .block k
def initF (k : Nat) : PR Int := if isT l k [61] then (if isT l (k + 1) [45] then (nmF l 0 (k + 2)).bind fun v k' => .ok (-v) k' else nmF l 0 (k + 1)) else .ok 0 k
def pdcF : Nat → List VarD → Nat → PR (List VarD)
  | 0, _, _ => .out
  | n + 1, acc, k =>
    if isT l k [118, 97, 114] then (pnmF l (k + 1)).bind fun nm k1 => (initF l k1).bind fun v k2 => (expF l [59] k2).bind fun _ k3 => pdcF n (acc ++ [⟨nm, 0, v⟩]) k3
    else if isT l k [97, 114, 114, 97, 121] then (pnmF l (k + 1)).bind fun nm k1 => (expF l [91] k1).bind fun _ k2 => (nmF l 1 k2).bind fun v k3 => (expF l [93] k3).bind fun _ k4 => (expF l [59] k4).bind fun _ k5 => pdcF n (acc ++ [⟨nm, v, 0⟩]) k5
    else .ok acc k
structure Seen where
  s : Bool
  m : Bool
  t : Bool
  i : Bool
def hanF : Nat → PgD → Seen → Nat → PR PgD
  | 0, _, _, _ => .out
  | n + 1, p, z, k =>
    if k < l.length then (expF l [111, 110] k).bind fun _ k1 =>
      if !z.s && isT l k1 [115, 116, 97, 114, 116] then (blockF l (k1 + 1)).bind fun b k2 => hanF n { p with start := b } { z with s := true } k2
      else if !z.m && isT l k1 [109, 101, 115, 115, 97, 103, 101] then (blockF l (k1 + 1)).bind fun b k2 => hanF n { p with message := b } { z with m := true } k2
      else if !z.t && isT l k1 [116, 105, 99, 107] then (blockF l (k1 + 1)).bind fun b k2 => hanF n { p with tick := b } { z with t := true } k2
      else if !z.i && isT l k1 [105, 110, 112, 117, 116] then (blockF l (k1 + 1)).bind fun b k2 => hanF n { p with input := b } { z with i := true } k2
      else .bad k1
    else .ok p k
def progF : PR PgD := (pdcF l (l.length + 1) [] 0).bind fun vs k => hanF l (l.length + 1) ⟨vs, [], [], [], []⟩ ⟨false, false, false, false⟩ k
def placeF (n : Nat) (k : Nat) : Int := if k < l.length then (l.getD k tk0).pos else n
end
end Go.Abs
namespace Go.Abs
open Go
def PR.on {α : Type} (r : PR α) (k n : Nat) : Prop := match r with | .ok _ k' => k ≤ k' ∧ k' ≤ n | .bad k' => k ≤ k' ∧ k' ≤ n | .out => True
def PR.past {α : Type} (r : PR α) (k n : Nat) : Prop := match r with | .ok _ k' => k < k' ∧ k' ≤ n | .bad k' => k ≤ k' ∧ k' ≤ n | .out => True
theorem PR.past.on {α : Type} {r : PR α} {k n : Nat} (h : r.past k n) : r.on k n := by
  cases r <;> simp only [PR.past, PR.on] at * <;> omega
theorem PR.on.le {α : Type} {r : PR α} {k k0 n : Nat} (h : r.on k n) (hk : k0 ≤ k) : r.on k0 n := by
  cases r <;> simp only [PR.on] at * <;> omega
theorem PR.past.le {α : Type} {r : PR α} {k k0 n : Nat} (h : r.past k n) (hk : k0 ≤ k) : r.past k0 n := by
  cases r <;> simp only [PR.past] at * <;> omega
theorem PR.on.lt {α : Type} {r : PR α} {k k0 n : Nat} (h : r.on k n) (hk : k0 < k) : r.past k0 n := by
  cases r <;> simp only [PR.past, PR.on] at * <;> omega
theorem PR.on.bind {α β : Type} {r : PR α} {f : α → Nat → PR β} {k n : Nat} (h : r.on k n) (hf : ∀ a k', k ≤ k' → k' ≤ n → (f a k').on k' n) : (r.bind f).on k n := by
  cases r with
  | ok a k' => simp only [PR.on, PR.bind] at *; exact PR.on.le (hf a k' h.1 h.2) h.1
  | bad k' => exact h
  | out => trivial
theorem PR.past.bind {α β : Type} {r : PR α} {f : α → Nat → PR β} {k n : Nat} (h : r.past k n) (hf : ∀ a k', k < k' → k' ≤ n → (f a k').on k' n) : (r.bind f).past k n := by
  cases r with
  | ok a k' => simp only [PR.past, PR.bind] at *; exact PR.on.lt (hf a k' h.1 h.2) h.1
  | bad k' => exact h
  | out => trivial
theorem PR.ok_on {α : Type} (a : α) {k n : Nat} (h : k ≤ n) : (PR.ok a k).on k n := ⟨Nat.le_refl _, h⟩
section
variable {l : List TkD}
theorem isT_lt {k : Nat} {s : List UInt8} (h : isT l k s = true) (hs : s ≠ []) : k < l.length := by
  unfold isT peekF at h
  by_cases hk : k < l.length
  · exact hk
  · rw [if_neg hk] at h
    exact absurd (by simpa using h : ([] : List UInt8) = s).symm hs
theorem expF_past {s : List UInt8} {k : Nat} (hk : k ≤ l.length) (hs : s ≠ []) : (expF l s k).past k l.length := by
  unfold expF
  split
  · rename_i h; have := isT_lt h hs; exact ⟨by omega, by omega⟩
  · exact ⟨Nat.le_refl _, hk⟩
theorem pnmF_past {k : Nat} (hk : k ≤ l.length) : (pnmF l k).past k l.length := by
  unfold pnmF
  split
  · rename_i h; exact ⟨by omega, by omega⟩
  · exact ⟨Nat.le_refl _, hk⟩
theorem nmF_past {z : Int} {k : Nat} (hk : k ≤ l.length) : (nmF l z k).past k l.length := by
  unfold nmF
  split
  · rename_i h; exact ⟨by omega, by omega⟩
  · exact ⟨Nat.le_refl _, hk⟩
theorem opF_lt {lv k : Nat} (h : ¬ opF lv (peekF l k) = 0) : k < l.length := by
  by_cases hk : k < l.length
  · exact hk
  · exfalso
    apply h
    unfold peekF
    rw [if_neg hk]
    unfold opF
    repeat' split
    all_goals first | rfl | simp_all
def Nt.strict : Nt → Bool
  | .loop _ _ => false
  | _ => true
theorem exF_on : ∀ (n : Nat) (nt : Nt) (k : Nat), k ≤ l.length → (exF l n nt k).on k l.length ∧ (nt.strict = true → (exF l n nt k).past k l.length)
  | 0, nt, k, hk => by constructor <;> intros <;> (unfold exF; trivial)
  | n + 1, .bin lv, k, hk => by
    have h : (exF l (n + 1) (.bin lv) k).past k l.length := by
      unfold exF
      split
      · exact (exF_on n .un k hk).2 rfl
      · exact PR.past.bind ((exF_on n (.bin (lv + 1)) k hk).2 rfl) (fun e k' _ h2 => (exF_on n (.loop lv e) k' h2).1)
    exact ⟨h.on, fun _ => h⟩
  | n + 1, .loop lv e, k, hk => by
    refine ⟨?_, fun h => by cases h⟩
    unfold exF
    split
    · exact PR.ok_on _ hk
    · rename_i h
      have := opF_lt h
      exact PR.on.le (PR.on.bind (exF_on n (.bin (lv + 1)) (k + 1) (by omega)).1 (fun e2 k2 _ h2 => (exF_on n _ k2 h2).1)) (by omega)
  | n + 1, .un, k, hk => by
    have h : (exF l (n + 1) .un k).past k l.length := by
      unfold exF
      split
      · rename_i h
        have := isT_lt h (by simp)
        exact PR.on.lt (PR.on.bind (exF_on n .un (k + 1) (by omega)).1 (fun e k' _ h2 => PR.ok_on _ h2)) (by omega)
      · split
        · rename_i h
          have := isT_lt h (by simp)
          exact PR.on.lt (PR.on.bind (exF_on n .un (k + 1) (by omega)).1 (fun e k' _ h2 => PR.ok_on _ h2)) (by omega)
        · exact (exF_on n .prim k hk).2 rfl
    exact ⟨h.on, fun _ => h⟩
  | n + 1, .prim, k, hk => by
    have one : ∀ {s : List UInt8} {e : Ex}, isT l k s = true → s ≠ [] → (PR.ok e (k + 1)).past k l.length := fun h hs => ⟨by omega, by have := isT_lt h hs; omega⟩
    have h : (exF l (n + 1) .prim k).past k l.length := by
      unfold exF
      split
      · exact PR.past.bind (nmF_past hk) (fun v k' _ h2 => PR.ok_on _ h2)
      split
      · exact one ‹_› (by simp)
      split
      · exact one ‹_› (by simp)
      split
      · exact one ‹_› (by simp)
      split
      · exact one ‹_› (by simp)
      split
      · rename_i h
        have := isT_lt h (by simp)
        exact PR.on.lt (PR.on.bind (exF_on n (.bin 0) (k + 1) (by omega)).1 (fun e k' _ h2 => PR.on.bind (expF_past h2 (by simp)).on (fun _ k2 _ h3 => PR.ok_on _ h3))) (by omega)
      · refine PR.past.bind (pnmF_past hk) (fun nm k1 _ h1 => ?_)
        split
        · rename_i h
          have := isT_lt h (by simp)
          exact PR.on.le (PR.on.bind (exF_on n (.bin 0) (k1 + 1) (by omega)).1 (fun e k' _ h2 => PR.on.bind (expF_past h2 (by simp)).on (fun _ k2 _ h3 => PR.ok_on _ h3))) (by omega)
        · exact PR.ok_on _ h1
    exact ⟨h.on, fun _ => h⟩
def Nt.need (m : Nat) : Nt → Nat
  | .bin lv => 9 * m + (5 - lv) + 3
  | .loop _ _ => 9 * m + 9
  | .un => 9 * m + 2
  | .prim => 9 * m + 1
def Nt.fit : Nt → Bool
  | .bin lv => decide (lv ≤ 5)
  | .loop lv _ => decide (lv < 5)
  | _ => true
def PR.isOut {α : Type} : PR α → Bool
  | .out => true
  | _ => false
theorem PR.bind_out {α β : Type} {r : PR α} {f : α → Nat → PR β} (h : r.isOut = false) (hf : ∀ a k', r = .ok a k' → (f a k').isOut = false) : (r.bind f).isOut = false := by
  cases r with
  | ok a k' => exact hf a k' rfl
  | bad k' => rfl
  | out => cases h
theorem expF_out {s : List UInt8} {k : Nat} : (expF l s k).isOut = false := by unfold expF; split <;> rfl
theorem pnmF_out {k : Nat} : (pnmF l k).isOut = false := by unfold pnmF; split <;> rfl
theorem nmF_out {z : Int} {k : Nat} : (nmF l z k).isOut = false := by unfold nmF; split <;> rfl
theorem exF_out : ∀ (n : Nat) (nt : Nt) (k : Nat), k ≤ l.length → nt.fit = true → nt.need (l.length - k) ≤ n → (exF l n nt k).isOut = false
  | 0, nt, k, hk, _, h => by cases nt <;> simp only [Nt.need] at h <;> omega
  | n + 1, .bin lv, k, hk, hf, h => by
    simp only [Nt.need] at h
    simp only [Nt.fit, decide_eq_true_eq] at hf
    unfold exF
    split
    · exact exF_out n .un k hk rfl (by simp only [Nt.need]; omega)
    · refine PR.bind_out (exF_out n (.bin (lv + 1)) k hk (by simp only [Nt.fit, decide_eq_true_eq]; omega) (by simp only [Nt.need]; omega)) (fun e k' he => ?_)
      have h1 := (exF_on (l := l) n (.bin (lv + 1)) k hk).2 rfl
      rw [he] at h1
      exact exF_out n (.loop lv e) k' h1.2 (by simp only [Nt.fit, decide_eq_true_eq]; omega) (by have := h1.1; have := h1.2; simp only [Nt.need]; omega)
  | n + 1, .loop lv e, k, hk, hf, h => by
    simp only [Nt.need] at h
    simp only [Nt.fit, decide_eq_true_eq] at hf
    unfold exF
    split
    · rfl
    · rename_i h0
      have := opF_lt h0
      refine PR.bind_out (exF_out n (.bin (lv + 1)) (k + 1) (by omega) (by simp only [Nt.fit, decide_eq_true_eq]; omega) (by simp only [Nt.need]; omega)) (fun e2 k2 he => ?_)
      have h1 := (exF_on (l := l) n (.bin (lv + 1)) (k + 1) (by omega)).2 rfl
      rw [he] at h1
      exact exF_out n _ k2 h1.2 (by simp only [Nt.fit, decide_eq_true_eq]; omega) (by have := h1.1; have := h1.2; simp only [Nt.need]; omega)
  | n + 1, .un, k, hk, hf, h => by
    simp only [Nt.need] at h
    unfold exF
    split
    · rename_i h0
      have := isT_lt h0 (by simp)
      exact PR.bind_out (exF_out n .un (k + 1) (by omega) rfl (by simp only [Nt.need]; omega)) (fun _ _ _ => rfl)
    · split
      · rename_i h0
        have := isT_lt h0 (by simp)
        exact PR.bind_out (exF_out n .un (k + 1) (by omega) rfl (by simp only [Nt.need]; omega)) (fun _ _ _ => rfl)
      · exact exF_out n .prim k hk rfl (by simp only [Nt.need]; omega)
  | n + 1, .prim, k, hk, hf, h => by
    simp only [Nt.need] at h
    unfold exF
    split
    · exact PR.bind_out nmF_out (fun _ _ _ => rfl)
    split
    · rfl
    split
    · rfl
    split
    · rfl
    split
    · rfl
    split
    · rename_i h0
      have := isT_lt h0 (by simp)
      exact PR.bind_out (exF_out n (.bin 0) (k + 1) (by omega) rfl (by simp only [Nt.need]; omega)) (fun _ _ _ => PR.bind_out expF_out (fun _ _ _ => rfl))
    · refine PR.bind_out pnmF_out (fun nm k1 he => ?_)
      have h1 := pnmF_past (l := l) hk
      rw [he] at h1
      split
      · rename_i h0
        have := isT_lt h0 (by simp)
        exact PR.bind_out (exF_out n (.bin 0) (k1 + 1) (by omega) rfl (by have := h1.1; simp only [Nt.need]; omega)) (fun _ _ _ => PR.bind_out expF_out (fun _ _ _ => rfl))
      · rfl
theorem pexF_out {k : Nat} (hk : k ≤ l.length) : (pexF l k).isOut = false := exF_out _ _ k hk rfl (by simp only [Nt.need]; omega)
theorem pexF_past {k : Nat} (hk : k ≤ l.length) : (pexF l k).past k l.length := (exF_on _ _ k hk).2 rfl
end
end Go.Abs
namespace Go.Abs
open Go
def lvF (op : Nat) : Nat := if op = 22 then 0 else if op = 21 then 1 else if op = 10 ∨ op = 11 then 3 else if op = 12 ∨ op = 13 ∨ op = 14 then 4 else 2
def sgF (op : Nat) : List UInt8 :=
  if op = 8 ∨ op = 11 then [45] else if op = 9 then [33] else if op = 10 then [43] else if op = 12 then [42] else if op = 13 then [47] else if op = 14 then [37]
  else if op = 15 then [60] else if op = 16 then [60, 61] else if op = 17 then [62] else if op = 18 then [62, 61] else if op = 19 then [61, 61] else if op = 20 then [33, 61] else if op = 21 then [38, 38] else [124, 124]
theorem opF_of (k : Nat) (h1 : 10 ≤ k) (h2 : k ≤ 22) : opF (lvF k) (sgF k) = k := by
  have : k = 10 ∨ k = 11 ∨ k = 12 ∨ k = 13 ∨ k = 14 ∨ k = 15 ∨ k = 16 ∨ k = 17 ∨ k = 18 ∨ k = 19 ∨ k = 20 ∨ k = 21 ∨ k = 22 := by omega
  rcases this with rfl | rfl | rfl | rfl | rfl | rfl | rfl | rfl | rfl | rfl | rfl | rfl | rfl <;> rfl
theorem opF_ne {lv : Nat} {s : List UInt8} (h : opF lv s ≠ 0) : 10 ≤ opF lv s ∧ opF lv s ≤ 22 ∧ lvF (opF lv s) = lv ∧ sgF (opF lv s) = s := by
  unfold opF at h ⊢
  repeat' split
  all_goals first
    | (exfalso; simp_all; done)
    | (rename_i hs; simp only [beq_iff_eq] at hs; subst hs; subst_vars; decide)
def argA : List Ex → AVal
  | [] => .snil
  | e :: r => .pv (.slice ((e :: r).map encEx))
def exA (e : Ex) : AVal := .agg [.pv (.int .i64 e.op), .pv (.int .i64 e.value), .pv (.str e.name), .pv (.int .i64 e.slot), .pv (.int .i64 e.size), argA e.args]
theorem arg_nil : argA [] = .snil := rfl
theorem arg_cons (e : Ex) (r : List Ex) : argA (e :: r) = .pv (.slice ((e :: r).map encEx)) := rfl
theorem isC_arg (a : List Ex) : AVal.isCell (argA a) = true := by cases a <;> rfl
theorem cells_arg (a : List Ex) : AVal.cells (argA a) = [argA a] := by cases a <;> rfl
theorem ren_arg (ι : Nat → Nat) (a : List Ex) : ren ι (argA a) = argA a := by cases a <;> simp [argA, ren]
theorem sc_arg (n : Nat → Bool) (a : List Ex) : inScope n (argA a) = true := by cases a <;> simp [argA, inScope]
theorem toPs_arg (a : List Ex) (r : List AVal) : toPs (argA a :: r) = match toPs r with | some ps => some (.slice (a.map encEx) :: ps) | none => none := by
  cases a <;> (simp only [argA, toPs, AVal.toP]; cases toPs r <;> rfl)
def kA := And.intro @isC_arg <| And.intro @cells_arg <| And.intro @ren_arg <| And.intro @toPs_arg <| @arg_nil
theorem exA_K (op : Int) : exA (exK op) = .agg [.pv (.int .i64 op), .pv (.int .i64 0), .pv (.str []), .pv (.int .i64 0), .pv (.int .i64 0), .snil] := rfl
theorem exA_C (v : Int) : exA (exC v) = .agg [.pv (.int .i64 1), .pv (.int .i64 v), .pv (.str []), .pv (.int .i64 0), .pv (.int .i64 0), .snil] := rfl
theorem exA_N (nm : List UInt8) : exA (exN nm) = .agg [.pv (.int .i64 2), .pv (.int .i64 0), .pv (.str nm), .pv (.int .i64 0), .pv (.int .i64 0), .snil] := rfl
end Go.Abs
namespace Go.Abs
open Go
theorem indexByte_run : ∀ l : List UInt8, Lib.indexByte l 10 = if (l.takeWhile notLF).length = l.length then -1 else ((l.takeWhile notLF).length : Int)
  | [] => by simp [Lib.indexByte]
  | b :: l => by
    rw [Lib.indexByte, indexByte_run l, List.takeWhile_cons]
    have hle : (l.takeWhile notLF).length ≤ l.length := (List.takeWhile_sublist notLF).length_le
    by_cases h : b = 10
    · subst h
      simp [notLF]
    · have hb : (b == 10) = false := by simpa using h
      have hn : notLF b = true := by simp [notLF, h]
      rw [hb, hn, if_neg (by simp), if_pos rfl]
      simp only [List.length_cons]
      by_cases h2 : (l.takeWhile notLF).length = l.length
      · simp [h2]
      · have h3 : ¬ ((l.takeWhile notLF).length + 1 = l.length + 1) := by omega
        have h4 : ¬ (((l.takeWhile notLF).length : Int) = -1) := by omega
        simp [h2, h4]
theorem comment_eq (s : List UInt8) (a : Nat) (h : a ≤ s.length) : (if Lib.indexByte (s.drop a) 10 < 0 then (s.length : Int) else a + Lib.indexByte (s.drop a) 10) = runF notLF s a := by
  rw [indexByte_run]
  unfold runF
  have hl : (s.drop a).length = s.length - a := by simp
  by_cases h2 : ((s.drop a).takeWhile notLF).length = (s.drop a).length
  · rw [if_pos h2, if_pos (by omega), h2, hl]; omega
  · rw [if_neg h2, if_neg (by omega)]; omega
theorem cut_succ (s : List UInt8) (a k : Nat) (h : k < s.length) (ha : a ≤ k) : cut s a (k + 1) = cut s a k ++ [s.getD k 0] := by
  unfold cut
  rw [List.take_succ_eq_append_getElem h, List.drop_append_of_le_length (by simp; omega)]
  simp [List.getD, h]
theorem numEnd_exit (s : List UInt8) (a k : Nat) (hr1 : s.getD a 0 ≠ 48 → runF isD s k = runF isD s (a + 1)) (hr2 : s.getD a 0 = 48 → k = a + 1)
    (hc : ((((s.getD a 0).toNat : Nat) : Int) != 48 && decide ((k : Int) < s.length) && digitF ((s.getD k 0).toNat : Int)) = false) (h48 : ((((s.getD a 0).toNat : Nat) : Int) != 48) = true ↔ s.getD a 0 ≠ 48) : numEnd s a = k := by
  unfold numEnd
  by_cases h : s.getD a 0 = 48
  · rw [if_pos h, hr2 h]
  · rw [if_neg h, ← hr1 h]
    rw [h48.2 h, Bool.true_and] at hc
    by_cases hlt : k < s.length
    · rw [runF_step isD s k hlt]
      have h1 : decide ((k : Int) < s.length) = true := by simpa using (show (k : Int) < s.length by omega)
      rw [h1, Bool.true_and] at hc
      rw [show isD (s.getD k 0) = false from hc]
      simp
    · exact runF_end isD s k (by omega)
theorem cut_self (s : List UInt8) (a : Nat) : cut s a a = [] := by simp [cut]
theorem cut_ne (s : List UInt8) (a k : Nat) (h : a < k) (hk : k ≤ s.length) : cut s a k ≠ [] := by
  intro e
  have := congrArg List.length e
  simp [cut] at this
  omega
theorem cut_len (s : List UInt8) (a k : Nat) (hk : k ≤ s.length) : (cut s a k).length = k - a := by simp [cut]; omega
theorem u8_ne (c : UInt8) (n : Nat) (h : n < 256) : (((c.toNat : Int) != (n : Int)) = true) ↔ c ≠ UInt8.ofNat n := by
  rw [bne_iff_ne]
  constructor
  · intro h1 h2
    apply h1
    rw [h2]
    simp
    omega
  · intro h1 h2
    apply h1
    apply UInt8.toNat.inj
    simp
    omega
end Go.Abs
namespace Go.Abs
open Go
structure SI (s : List UInt8) where
  k : Nat
  acc : List TkD
  f : Nat
  hk : k ≤ s.length
  hf : s.length < k + f
  ha : acc.length ≤ k
  eq : scanF s f k acc = scanF s (s.length + 1) 0 []
variable {s : List UInt8} (i : SI s)
theorem SI.fpos (h : i.k < s.length) : ∃ f, i.f = f + 1 := ⟨i.f - 1, by have := i.hf; omega⟩
theorem SI.unf (h : i.k < s.length) : scanF s i.f i.k i.acc = (if isB (s.getD i.k 0) then scanF s (i.f - 1) (i.k + 1) i.acc
      else if s.getD i.k 0 = 35 then scanF s (i.f - 1) (runF notLF s i.k) i.acc
      else if (oneF s i.k).2.2 = 0 then scanF s (i.f - 1) (oneF s i.k).2.1.toNat (i.acc ++ [(oneF s i.k).1])
      else ([], i.k, (oneF s i.k).2.2)) := by
  obtain ⟨f, hf⟩ := i.fpos h
  rw [hf, scanF, if_pos h]
  rfl
def SI.blank (h : i.k < s.length) (hb : isB (s.getD i.k 0) = true) : SI s := ⟨i.k + 1, i.acc, i.f - 1, h, by have := i.hf; omega, by have := i.ha; omega, by
  have := i.unf h; rw [if_pos hb] at this; rw [← this]; exact i.eq⟩
theorem hash_gt (h : i.k < s.length) (hh : s.getD i.k 0 = 35) : i.k < runF notLF s i.k ∧ runF notLF s i.k ≤ s.length := by
  have h1 := runF_step notLF s i.k h
  have h2 : notLF (s.getD i.k 0) = true := by rw [hh]; rfl
  rw [h2, if_pos rfl] at h1
  have h3 := runF_ge notLF s (i.k + 1)
  exact ⟨by omega, runF_le notLF s i.k (by omega)⟩
def SI.hsh (h : i.k < s.length) (hh : s.getD i.k 0 = 35) : SI s := ⟨runF notLF s i.k, i.acc, i.f - 1, (hash_gt i h hh).2, by have := i.hf; have := hash_gt i h hh; omega, by have := i.ha; have := hash_gt i h hh; omega, by
  have := i.unf h
  have hb : ¬ (isB (s.getD i.k 0) = true) := by rw [hh]; decide
  rw [if_neg hb, if_pos hh] at this; rw [← this]; exact i.eq⟩
theorem tok_gt (h : i.k < s.length) (h0 : (oneF s i.k).2.2 = 0) : i.k < (oneF s i.k).2.1.toNat ∧ (oneF s i.k).2.1.toNat ≤ s.length ∧ (oneF s i.k).2.1 = (((oneF s i.k).2.1.toNat : Nat) : Int) := by
  obtain ⟨e, h1, h2, h3⟩ := oneF_end s i.k h h0
  rw [h1]
  exact ⟨by simpa using h2, by simpa using h3, by simp⟩
def SI.tok (h : i.k < s.length) (hb : ¬ (isB (s.getD i.k 0) = true)) (hh : ¬ s.getD i.k 0 = 35) (h0 : (oneF s i.k).2.2 = 0) : SI s :=
  ⟨(oneF s i.k).2.1.toNat, i.acc ++ [(oneF s i.k).1], i.f - 1, (tok_gt i h h0).2.1, by have := i.hf; have := tok_gt i h h0; omega, by have := i.ha; have := tok_gt i h h0; simp; omega, by
  have := i.unf h
  rw [if_neg hb, if_neg hh, if_pos h0] at this; rw [← this]; exact i.eq⟩
theorem SI.bad (h : i.k < s.length) (hb : ¬ (isB (s.getD i.k 0) = true)) (hh : ¬ s.getD i.k 0 = 35) (h0 : ¬ (oneF s i.k).2.2 = 0) : scanF s (s.length + 1) 0 [] = ([], (i.k : Int), (oneF s i.k).2.2) := by
  have := i.unf h
  rw [if_neg hb, if_neg hh, if_neg h0] at this; rw [← i.eq, this]
theorem SI.fin (h : ¬ i.k < s.length) : scanF s (s.length + 1) 0 [] = (i.acc, 0, 0) := by
  rw [← i.eq]
  cases hf : i.f with
  | zero => rfl
  | succ f => rw [scanF, if_neg h]
def SI.start (s : List UInt8) : SI s := ⟨0, [], s.length + 1, by omega, by omega, by simp, rfl⟩
theorem SI.blank_k (h : i.k < s.length) (hb : isB (s.getD i.k 0) = true) : (i.blank h hb).k = i.k + 1 := rfl
theorem SI.blank_acc (h : i.k < s.length) (hb : isB (s.getD i.k 0) = true) : (i.blank h hb).acc = i.acc := rfl
theorem SI.hsh_k (h : i.k < s.length) (hb : s.getD i.k 0 = 35) : (i.hsh h hb).k = runF notLF s i.k := rfl
theorem SI.hsh_acc (h : i.k < s.length) (hb : s.getD i.k 0 = 35) : (i.hsh h hb).acc = i.acc := rfl
theorem SI.tok_k (h : i.k < s.length) (hb : ¬ (isB (s.getD i.k 0) = true)) (hh : ¬ s.getD i.k 0 = 35) (h0 : (oneF s i.k).2.2 = 0) : (i.tok h hb hh h0).k = (oneF s i.k).2.1.toNat := rfl
theorem SI.tok_acc (h : i.k < s.length) (hb : ¬ (isB (s.getD i.k 0) = true)) (hh : ¬ s.getD i.k 0 = 35) (h0 : (oneF s i.k).2.2 = 0) : (i.tok h hb hh h0).acc = i.acc ++ [(oneF s i.k).1] := rfl
theorem SI.start_k (s : List UInt8) : (SI.start s).k = 0 := rfl
theorem SI.start_acc (s : List UInt8) : (SI.start s).acc = [] := rfl
theorem u8f {c d : UInt8} (h : c ≠ d) : (((c.toNat : Nat) : Int) == ((d.toNat : Nat) : Int)) = false := by
  have : ¬ ((c.toNat : Int) = d.toNat) := fun e => h (UInt8.toNat.inj (by omega))
  simpa using this
theorem isB_not {c : UInt8} (h : ¬ (isB c = true)) : c ≠ 9 ∧ c ≠ 10 ∧ c ≠ 13 ∧ c ≠ 32 := by
  simp [isB] at h; exact ⟨h.1.1.1, h.1.1.2, h.1.2, h.2⟩
theorem isB_or {c : UInt8} (h : isB c = true) : c = 9 ∨ c = 10 ∨ c = 13 ∨ c = 32 := by
  simp [isB] at h
  rcases h with ((h | h) | h) | h <;> simp [h]
end Go.Abs
namespace Go.Abs
open Go
end Go.Abs
namespace Go.Abs
open Go
def dg : Nat → Nat → List UInt8
  | 0, _ => []
  | f + 1, n => if n = 0 then [] else dg f (n / 10) ++ [UInt8.ofNat (48 + n % 10)]
def decF (n : Int) : List UInt8 := if n ≤ 0 then [48] else dg 20 n.toNat
theorem dg_zero (f : Nat) : dg f 0 = [] := by cases f <;> simp [dg]
theorem dg_step (f n : Nat) (h : n ≠ 0) : dg (f + 1) n = dg f (n / 10) ++ [UInt8.ofNat (48 + n % 10)] := by rw [dg, if_neg h]
theorem dg_more : ∀ (f n : Nat), n < 10 ^ f → dg (f + 1) n = dg f n
  | 0, n, h => by
    have : n = 0 := by simpa using h
    subst this; rw [dg_zero, dg_zero]
  | f + 1, n, h => by
    by_cases h0 : n = 0
    · subst h0; rw [dg_zero, dg_zero]
    · rw [dg_step _ _ h0, dg_step _ _ h0, dg_more f (n / 10) (by rw [Nat.pow_succ] at h; omega)]
end Go.Abs
namespace Go.Abs
open Go
theorem dgD (n : Nat) : isD (UInt8.ofNat (48 + n % 10)) = true := by
  have h : n % 10 < 10 := Nat.mod_lt _ (by omega)
  unfold isD digitF
  simp
  omega
theorem dg_all : ∀ (f n : Nat) (c : UInt8), c ∈ dg f n → isD c = true
  | 0, _, c, h => by simp [dg] at h
  | f + 1, n, c, h => by
    by_cases h0 : n = 0
    · subst h0; rw [dg_zero] at h; simp at h
    · rw [dg_step _ _ h0, List.mem_append, List.mem_singleton] at h
      rcases h with h | rfl
      · exact dg_all f _ c h
      · exact dgD n
theorem valA_append : ∀ (l r : List UInt8) (a : Nat), valA (l ++ r) a = valA r (valA l a)
  | [], r, a => by simp [valA]
  | c :: l, r, a => by simp only [List.cons_append, valA]; exact valA_append l r _
theorem dg_val : ∀ (f n : Nat), n < 10 ^ f → valF (dg f n) = n
  | 0, n, h => by have : n = 0 := by simpa using h
                  subst this; rfl
  | f + 1, n, h => by
    by_cases h0 : n = 0
    · subst h0; rw [dg_zero]; rfl
    · have hv := dg_val f (n / 10) (by rw [Nat.pow_succ] at h; omega)
      unfold valF at *
      rw [dg_step _ _ h0, valA_append, hv]
      have hr : n % 10 < 10 := Nat.mod_lt _ (by omega)
      have : (UInt8.ofNat (48 + n % 10)).toNat = 48 + n % 10 := by simp; omega
      simp only [valA, this]
      omega
theorem dg_len : ∀ (f n : Nat), (dg f n).length ≤ f
  | 0, _ => by simp [dg]
  | f + 1, n => by
    rw [dg]
    split
    · simp
    · have := dg_len f (n / 10); simp; omega
theorem dg_head : ∀ (f n : Nat), n < 10 ^ f → n ≠ 0 → ∃ c r, dg f n = c :: r ∧ c ≠ 48 ∧ isD c = true
  | 0, n, h, h0 => by simp at h; omega
  | f + 1, n, h, h0 => by
    rw [dg_step _ _ h0]
    by_cases h1 : n / 10 = 0
    · rw [h1, dg_zero]
      refine ⟨_, [], rfl, ?_, dgD n⟩
      intro e
      have := congrArg UInt8.toNat e
      simp at this
      omega
    · obtain ⟨c, r, e, h2, h3⟩ := dg_head f (n / 10) (by rw [Nat.pow_succ] at h; omega) h1
      exact ⟨c, r ++ [_], by rw [e]; rfl, h2, h3⟩
end Go.Abs
namespace Go.Abs
open Go
theorem run_all (p : UInt8 → Bool) (d : List UInt8) (h : ∀ c ∈ d, p c = true) (k : Nat) (hk : k ≤ d.length) (r : List UInt8) (hr : ∀ c, r.head? = some c → p c = false) : runF p (d ++ r) k = d.length := by
  unfold runF
  rw [List.drop_append_of_le_length hk]
  have h1 : (d.drop k ++ r).takeWhile p = d.drop k := by
    rw [List.takeWhile_append_of_pos (fun c hc => h c (List.mem_of_mem_drop hc))]
    cases r with
    | nil => simp
    | cons c r => rw [List.takeWhile_cons, hr c rfl]; simp
  rw [h1]
  simp
  omega
theorem isD_notL {c : UInt8} (h : isD c = true) : isL c = false := by
  have := digit_le h
  unfold isL letterF
  simp
  omega
theorem isD_W {c : UInt8} (h : isD c = true) : isW c = true := by
  unfold isW
  rw [show digitF c.toNat = true from h]; simp
end Go.Abs
namespace Go.Abs
open Go
structure Num (d : List UInt8) : Prop where
  all : ∀ c ∈ d, isD c = true
  ne : d ≠ []
  lead : d.getD 0 0 = 48 → d.length = 1
theorem getD_mid (p d r : List UInt8) (h : d ≠ []) : (p ++ d ++ r).getD p.length 0 = d.getD 0 0 := by
  cases d with
  | nil => exact absurd rfl h
  | cons c t => simp [List.getD]
theorem num_end (p d r : List UInt8) (hd : Num d) (hr : ∀ c, r.head? = some c → isD c = false) : numEnd (p ++ d ++ r) p.length = p.length + d.length := by
  unfold numEnd
  rw [getD_mid p d r hd.ne]
  split
  · rename_i h; rw [hd.lead h]
  · have hpos : 0 < d.length := List.length_pos_iff.2 hd.ne
    unfold runF
    rw [List.append_assoc, List.drop_append, List.drop_eq_nil_of_le (by omega), List.nil_append, show p.length + 1 - p.length = 1 by omega]
    have h1 := run_all isD d hd.all 1 (by omega) r hr
    unfold runF at h1
    omega
theorem cut_mid (p d r : List UInt8) : cut (p ++ d ++ r) p.length (p.length + d.length) = d := by
  unfold cut
  rw [List.append_assoc, List.take_append, List.take_of_length_le (by omega), show p.length + d.length - p.length = d.length by omega, List.take_append, List.take_length, List.drop_append]
  simp
end Go.Abs
namespace Go.Abs
open Go
end Go.Abs
namespace Go.Abs
open Go
end Go.Abs
namespace Go.Abs
open Go
end Go.Abs
namespace Go.Abs
open Go
inductive Sc (s : List UInt8) : Nat → List TkD → Prop
  | fin {k : Nat} : s.length ≤ k → Sc s k []
  | blank {k : Nat} {l : List TkD} : k < s.length → isB (s.getD k 0) = true → Sc s (k + 1) l → Sc s k l
  | hsh {k : Nat} {l : List TkD} : k < s.length → s.getD k 0 = 35 → Sc s (runF notLF s k) l → Sc s k l
  | tok {k e : Nat} {t : TkD} {l : List TkD} : k < s.length → ¬ (isB (s.getD k 0) = true) → ¬ s.getD k 0 = 35 → oneF s k = (t, (e : Int), 0) → Sc s e l → Sc s k (t :: l)
theorem hash_gt' (s : List UInt8) (k : Nat) (h : k < s.length) (hh : s.getD k 0 = 35) : k < runF notLF s k ∧ runF notLF s k ≤ s.length := by
  have h1 := runF_step notLF s k h
  have h2 : notLF (s.getD k 0) = true := by rw [hh]; rfl
  rw [h2, if_pos rfl] at h1
  have h3 := runF_ge notLF s (k + 1)
  exact ⟨by omega, runF_le notLF s k (by omega)⟩
theorem scanF_sc (s : List UInt8) : ∀ (f k : Nat) (acc : List TkD), s.length < k + f → (scanF s f k acc).2.2 = 0 → ∃ l, Sc s k l ∧ scanF s f k acc = (acc ++ l, 0, 0)
  | 0, k, acc, hf, _ => ⟨[], .fin (by omega), by simp [scanF]⟩
  | f + 1, k, acc, hf, h => by
    rw [scanF] at h ⊢
    by_cases hk : k < s.length
    · rw [if_pos hk] at h ⊢
      by_cases hb : isB (s.getD k 0) = true
      · rw [if_pos hb] at h ⊢
        obtain ⟨l, h1, h2⟩ := scanF_sc s f (k + 1) acc (by omega) h
        exact ⟨l, .blank hk hb h1, h2⟩
      · rw [if_neg hb] at h ⊢
        by_cases hh : s.getD k 0 = 35
        · rw [if_pos hh] at h ⊢
          have hg := hash_gt' s k hk hh
          obtain ⟨l, h1, h2⟩ := scanF_sc s f (runF notLF s k) acc (by omega) h
          exact ⟨l, .hsh hk hh h1, h2⟩
        · rw [if_neg hh] at h ⊢
          by_cases h0 : (oneF s k).2.2 = 0
          · rw [if_pos h0] at h ⊢
            obtain ⟨e, he, h1, h2⟩ := oneF_end s k hk h0
            have het : (oneF s k).2.1.toNat = e := by rw [he]; simp
            rw [het] at h ⊢
            obtain ⟨l, g1, g2⟩ := scanF_sc s f e (acc ++ [(oneF s k).1]) (by omega) h
            refine ⟨(oneF s k).1 :: l, .tok hk hb hh ?_ g1, by rw [g2]; simp⟩
            rw [← he, ← h0]
          · rw [if_neg h0] at h
            exact absurd h h0
    · rw [if_neg hk]
      exact ⟨[], .fin (by omega), by simp⟩
theorem scanF_err (s : List UInt8) : ∀ (f k : Nat) (acc : List TkD), (scanF s f k acc).2.2 ≠ 0 → (scanF s f k acc).1 = [] ∧ 0 ≤ (scanF s f k acc).2.1 ∧ (scanF s f k acc).2.1 ≤ s.length
  | 0, k, acc, h => by simp [scanF] at h
  | f + 1, k, acc, h => by
    rw [scanF] at h ⊢
    by_cases hk : k < s.length
    · rw [if_pos hk] at h ⊢
      by_cases hb : isB (s.getD k 0) = true
      · rw [if_pos hb] at h ⊢
        exact scanF_err s f _ _ h
      · rw [if_neg hb] at h ⊢
        by_cases hh : s.getD k 0 = 35
        · rw [if_pos hh] at h ⊢
          exact scanF_err s f _ _ h
        · rw [if_neg hh] at h ⊢
          by_cases h0 : (oneF s k).2.2 = 0
          · rw [if_pos h0] at h ⊢
            exact scanF_err s f _ _ h
          · rw [if_neg h0]
            exact ⟨rfl, by simp, by simp; omega⟩
    · rw [if_neg hk] at h
      simp at h
theorem scan_sc (s : List UInt8) (h : (scan s).2.2 = 0) : s.length ≤ 4096 ∧ ∃ l, Sc s 0 l ∧ scan s = (l, 0, 0) := by
  unfold scan at h ⊢
  by_cases hl : s.length > 4096
  · rw [if_pos hl] at h; simp at h
  · rw [if_neg hl] at h ⊢
    obtain ⟨l, h1, h2⟩ := scanF_sc s (s.length + 1) 0 [] (by omega) h
    exact ⟨by omega, l, h1, by rw [h2]; simp⟩
theorem scan_err (s : List UInt8) (h : (scan s).2.2 ≠ 0) : (scan s).1 = [] ∧ 0 ≤ (scan s).2.1 ∧ (scan s).2.1 ≤ s.length := by
  unfold scan at h ⊢
  by_cases hl : s.length > 4096
  · rw [if_pos hl]; exact ⟨rfl, by simp, by simp⟩
  · rw [if_neg hl] at h ⊢
    exact scanF_err s _ _ _ h
end Go.Abs
namespace Go.Abs
open Go
structure Good (t : TkD) (w : List UInt8) : Prop where
  ne : w ≠ []
  kinds : (t.kind = 1 ∧ t.text = w ∧ t.value = 0 ∧ isL (w.getD 0 0) = true ∧ (∀ c ∈ w, isW c = true) ∧ w.length ≤ 16) ∨
    (t.kind = 2 ∧ t.text = [] ∧ t.value = valF w ∧ Num w ∧ valF w < 9223372036854775808) ∨
    (t.kind = 3 ∧ t.text = w ∧ t.value = 0 ∧ isL (w.getD 0 0) = false ∧ isD (w.getD 0 0) = false ∧
      ((w.length = 1 ∧ signF (w.getD 0 0).toNat 0 = 1) ∨ (w.length = 2 ∧ signF (w.getD 0 0).toNat (w.getD 1 0).toNat = 2)))
def nx (r : List UInt8) : Int := match r with
  | [] => 0
  | c :: _ => (c.toNat : Int)
def okNext (t : TkD) (w r : List UInt8) : Prop :=
  (t.kind ≠ 3 → ∀ c, r.head? = some c → isW c = false) ∧ (t.kind = 3 → w.length = 1 → signF (w.getD 0 0).toNat (nx r) = 1)
theorem nextB_nx (s : List UInt8) (a : Nat) : nextB s a = nx (s.drop (a + 1)) := by
  unfold nextB
  by_cases h : a + 1 < s.length
  · rw [if_pos h, List.drop_eq_getElem_cons h]
    simp [nx, List.getD, h]
  · rw [if_neg h, List.drop_eq_nil_of_le (by omega)]
    rfl
theorem sign_one {c n : Int} (h : signF c n = 1) (m : Int) (hm : m ≠ 61) : signF c m = 1 := by
  unfold signF at h ⊢
  have hm' : (m == 61) = false := by simpa using hm
  rw [hm']
  split
  · rfl
  · rename_i h1
    rw [if_neg h1] at h
    split
    · rfl
    · rename_i h2
      rw [if_neg h2] at h
      split at h <;> omega
theorem run_stop (p : UInt8 → Bool) (s : List UInt8) (a : Nat) : ∀ c, (s.drop (runF p s a)).head? = some c → p c = false := by
  intro c hc
  unfold runF at hc
  rw [← List.drop_drop] at hc
  generalize s.drop a = u at hc
  induction u with
  | nil => simp at hc
  | cons x u ih =>
    rw [List.takeWhile_cons] at hc
    by_cases hx : p x = true
    · rw [if_pos hx] at hc
      simp at hc
      exact ih (by simpa using hc)
    · rw [if_neg hx] at hc
      simp at hc
      subst hc
      simpa using hx
theorem run_cut (p : UInt8 → Bool) (s : List UInt8) (a : Nat) : ∀ c ∈ cut s a (runF p s a), p c = true := by
  intro c hc
  unfold cut runF at hc
  rw [List.drop_take, show a + ((s.drop a).takeWhile p).length - a = ((s.drop a).takeWhile p).length by omega] at hc
  generalize s.drop a = u at hc
  have h1 : u.take (u.takeWhile p).length = u.takeWhile p := by
    induction u with
    | nil => simp
    | cons x u ih =>
      rw [List.takeWhile_cons]
      by_cases hx : p x = true
      · rw [if_pos hx] at *
        simp only [List.length_cons, List.take_succ_cons]
        rw [List.takeWhile_cons, if_pos hx] at hc
        simp only [List.length_cons, List.take_succ_cons] at hc
        congr 1
        clear hc
        clear ih
        induction u with
        | nil => simp
        | cons y u ih2 =>
          rw [List.takeWhile_cons]
          by_cases hy : p y = true
          · rw [if_pos hy]; simp only [List.length_cons, List.take_succ_cons]; rw [ih2]
          · rw [if_neg hy]; simp
      · rw [if_neg hx]; simp
  rw [h1] at hc
  clear h1
  induction u with
  | nil => simp at hc
  | cons x u ih =>
    rw [List.takeWhile_cons] at hc
    by_cases hx : p x = true
    · rw [if_pos hx] at hc
      rcases List.mem_cons.1 hc with rfl | hc
      · exact hx
      · exact ih hc
    · rw [if_neg hx] at hc; simp at hc
theorem cut_get0 (s : List UInt8) (a e : Nat) (h : a < e) (he : e ≤ s.length) : (cut s a e).getD 0 0 = s.getD a 0 := by
  unfold cut
  simp [List.getD, List.getElem?_drop, List.getElem?_take, h]
theorem cut_get1 (s : List UInt8) (a e : Nat) (h : a + 1 < e) (he : e ≤ s.length) : (cut s a e).getD 1 0 = s.getD (a + 1) 0 := by
  unfold cut
  simp [List.getD, List.getElem?_drop, List.getElem?_take, h]
theorem one_good (s : List UInt8) (k e : Nat) (t : TkD) (hk : k < s.length) (h : oneF s k = (t, (e : Int), 0)) : Good t (cut s k e) ∧ t.pos = k ∧ k < e ∧ e ≤ s.length ∧ okNext t (cut s k e) (s.drop e) := by
  obtain ⟨e', he', hlt, hle⟩ := oneF_end s k hk (by rw [h])
  rw [h] at he'
  simp only [Int.ofNat_inj] at he'
  have hee : e = e' := by omega
  subst hee
  have hne := cut_ne s k e hlt hle
  have hg0 := cut_get0 s k e hlt hle
  have hcl := cut_len s k e hle
  unfold oneF at h
  by_cases hl : isL (s.getD k 0) = true
  · rw [if_pos hl] at h
    by_cases h16 : runF isW s k - k > 16
    · rw [if_pos h16] at h; simp at h
    · rw [if_neg h16] at h
      simp only [Prod.mk.injEq, Int.ofNat_inj, and_true] at h
      obtain ⟨rfl, h2⟩ := h
      have h2' : runF isW s k = e := by omega
      subst h2'
      refine ⟨⟨hne, .inl ⟨rfl, rfl, rfl, by rw [hg0]; exact hl, run_cut isW s k, by omega⟩⟩, rfl, hlt, hle, ?_, ?_⟩
      · intro _; exact run_stop isW s k
      · intro hc; simp at hc
  · rw [if_neg hl] at h
    by_cases hd : isD (s.getD k 0) = true
    · rw [if_pos hd] at h
      unfold numF at h
      have hnl := numEnd_le s k hk
      by_cases hw : runF isW s (numEnd s k) > numEnd s k
      · rw [if_pos hw] at h; simp at h
      · rw [if_neg hw] at h
        by_cases hv : valF (cut s k (numEnd s k)) < 9223372036854775808
        · rw [if_pos hv] at h
          simp only [Prod.mk.injEq, Int.ofNat_inj, and_true] at h
          obtain ⟨rfl, h2⟩ := h
          have h2' : numEnd s k = e := by omega
          have hstop := run_stop isW s (numEnd s k)
          have hge := runF_ge isW s (numEnd s k)
          rw [show runF isW s (numEnd s k) = numEnd s k by omega, h2'] at hstop
          rw [h2'] at hv hge hw ⊢
          refine ⟨⟨hne, .inr (.inl ⟨rfl, rfl, rfl, ⟨?_, hne, ?_⟩, hv⟩)⟩, rfl, hlt, hle, ?_, ?_⟩
          · unfold numEnd at h2'
            split at h2'
            · rw [← h2', cut_succ s k k hk (Nat.le_refl _), cut_self]; simpa using hd
            · have h3 := run_cut isD s k
              rw [runF_step isD s k hk, if_pos hd, h2'] at h3
              exact h3
          · intro h48
            rw [hg0] at h48
            unfold numEnd at h2'
            rw [if_pos h48] at h2'
            omega
          · intro _; exact hstop
          · intro hc; simp at hc
        · rw [if_neg hv] at h; simp at h
    · rw [if_neg hd] at h
      by_cases h0 : signF (s.getD k 0).toNat (nextB s k) = 0
      · rw [if_pos h0] at h; simp at h
      · rw [if_neg h0] at h
        have hs := signF_le (s.getD k 0).toNat (nextB s k)
        simp only [Prod.mk.injEq, and_true] at h
        obtain ⟨rfl, h2⟩ := h
        have h2' : k + (signF (s.getD k 0).toNat (nextB s k)).toNat = e := by omega
        rw [h2']
        have hl' : isL (s.getD k 0) = false := by simpa using hl
        have hd' : isD (s.getD k 0) = false := by simpa using hd
        by_cases h1 : signF (s.getD k 0).toNat (nextB s k) = 1
        · have he1 : e = k + 1 := by omega
          refine ⟨⟨hne, .inr (.inr ⟨rfl, rfl, rfl, by rw [hg0]; exact hl', by rw [hg0]; exact hd', .inl ⟨by omega, ?_⟩⟩)⟩, rfl, hlt, hle, ?_, ?_⟩
          · rw [hg0]; exact sign_one h1 0 (by omega)
          · intro hc; simp at hc
          · intro _ _
            rw [hg0, he1, ← nextB_nx]
            exact h1
        · have h22 : signF (s.getD k 0).toNat (nextB s k) = 2 := by omega
          have he1 : e = k + 2 := by omega
          have hg1 := cut_get1 s k e (by omega) hle
          refine ⟨⟨hne, .inr (.inr ⟨rfl, rfl, rfl, by rw [hg0]; exact hl', by rw [hg0]; exact hd', .inr ⟨by omega, ?_⟩⟩)⟩, rfl, hlt, hle, ?_, ?_⟩
          · rw [hg0, hg1]
            rw [← h22]
            unfold nextB
            rw [if_pos (by omega)]
          · intro hc; simp at hc
          · intro _ hc; omega
end Go.Abs
namespace Go.Abs
open Go
theorem run_mid (q : UInt8 → Bool) (p w r : List UInt8) (hw : ∀ c ∈ w, q c = true) (hr : ∀ c, r.head? = some c → q c = false) : runF q (p ++ w ++ r) p.length = p.length + w.length := by
  have h1 := run_all q w hw 0 (by omega) r hr
  unfold runF at h1 ⊢
  rw [List.append_assoc, List.drop_append, List.drop_eq_nil_of_le (Nat.le_refl _), Nat.sub_self, List.nil_append]
  simp only [List.drop_zero] at h1 ⊢
  omega
theorem run_at (q : UInt8 → Bool) (p r : List UInt8) (hr : ∀ c, r.head? = some c → q c = false) : runF q (p ++ r) p.length = p.length := by
  unfold runF
  rw [List.drop_append, List.drop_eq_nil_of_le (Nat.le_refl _), Nat.sub_self, List.nil_append, List.drop_zero]
  cases r with
  | nil => simp
  | cons c t => rw [List.takeWhile_cons, hr c rfl]; simp
theorem good_one (t : TkD) (w p r : List UInt8) (hg : Good t w) (hn : okNext t w r) : oneF (p ++ w ++ r) p.length = ({ t with pos := p.length }, ((p.length + w.length : Nat) : Int), 0) := by
  obtain ⟨hne, hk⟩ := hg
  have h0 := getD_mid p w r hne
  have hcut := cut_mid p w r
  unfold oneF
  rw [h0]
  obtain ⟨kind, text, value, pos⟩ := t
  rcases hk with ⟨h1, h2, h3, h4, h5, h6⟩ | ⟨h1, h2, h3, h4, h5⟩ | ⟨h1, h2, h3, h4, h5, h6⟩
  · simp only at h1 h2 h3
    subst h1 h2 h3
    have hr := run_mid isW p text r h5 (hn.1 (by simp))
    rw [if_pos h4, hr, if_neg (by omega), hcut]
  · simp only at h1 h2 h3
    subst h1 h2 h3
    have hD : isD (w.getD 0 0) = true := by
      cases w with
      | nil => exact absurd rfl hne
      | cons c t => exact h4.all c (by simp)
    have hs := hn.1 (by simp)
    have hne2 := num_end p w r h4 (fun c hc => by
      have := hs c hc
      cases h : isD c with
      | false => rfl
      | true => rw [isD_W h] at this; exact absurd this (by simp))
    have hr := run_at isW (p ++ w) r hs
    rw [List.length_append] at hr
    rw [isD_notL hD, if_neg (by simp), if_pos hD]
    unfold numF
    rw [hne2, hcut, hr, if_neg (by omega), if_pos h5]
  · simp only at h1 h2 h3
    subst h1 h2 h3
    have hnb : nextB (p ++ text ++ r) p.length = nx ((text ++ r).drop 1) := by
      rw [nextB_nx, List.append_assoc, List.drop_append, List.drop_eq_nil_of_le (by omega), List.nil_append, show p.length + 1 - p.length = 1 by omega]
    rw [h4, h5, if_neg (by simp), if_neg (by simp), hnb]
    have key : signF (text.getD 0 0).toNat (nx ((text ++ r).drop 1)) = text.length := by
      rcases h6 with ⟨h7, h8⟩ | ⟨h7, h8⟩
      · match text, h7 with
        | [c], _ =>
          have := hn.2 rfl rfl
          simpa using this
      · match text, h7 with
        | [c, d], _ => simpa [nx] using h8
    rw [key]
    have hpos : 0 < text.length := List.length_pos_iff.2 hne
    rw [if_neg (by omega), Int.toNat_natCast, hcut]
    simp
def stopR (r : List UInt8) : Prop := ∀ c, r.head? = some c → isB c = true ∨ c = 35
theorem stop_next (t : TkD) (w r : List UInt8) (hg : Good t w) (hr : stopR r) : okNext t w r := by
  refine ⟨fun _ c hc => ?_, fun h3 hl => ?_⟩
  · rcases hr c hc with h | h
    · rcases isB_or h with h | h | h | h <;> subst h <;> decide
    · subst h; decide
  · rcases hg.kinds with h | h | ⟨_, _, _, _, _, h6⟩
    · rw [h.1] at h3; omega
    · rw [h.1] at h3; omega
    · have h1 : signF (w.getD 0 0).toNat 0 = 1 := by
        rcases h6 with h6 | h6
        · exact h6.2
        · omega
      refine sign_one h1 _ ?_
      cases r with
      | nil => simp [nx]
      | cons c r =>
        rcases hr c rfl with h | h
        · rcases isB_or h with h | h | h | h <;> subst h <;> simp [nx]
        · subst h; simp [nx]
end Go.Abs
namespace Go.Abs
open Go
def strip (t : TkD) : TkD := { t with pos := 0 }
def Su (u : List UInt8) (l : List TkD) : Prop := ∀ p : List UInt8, ∃ l', Sc (p ++ u) p.length l' ∧ l'.map strip = l.map strip
theorem Su.blank {c : UInt8} {u : List UInt8} {l : List TkD} (hc : isB c = true) (h : Su u l) : Su (c :: u) l := by
  intro p
  obtain ⟨l', h1, h2⟩ := h (p ++ [c])
  refine ⟨l', .blank (by simp) ?_ ?_, h2⟩
  · have : (p ++ c :: u).getD p.length 0 = c := by simp [List.getD]
    rw [this]; exact hc
  · simpa using h1
theorem good_first {t : TkD} {w : List UInt8} (hg : Good t w) : ¬ (isB (w.getD 0 0) = true) ∧ ¬ w.getD 0 0 = 35 := by
  have key : ∀ c : UInt8, (isB c = true ∨ c = 35) → isL c = false ∧ isD c = false ∧ ∀ n, signF c.toNat n = 0 := by
    intro c h
    have hx : c = 9 ∨ c = 10 ∨ c = 13 ∨ c = 32 ∨ c = 35 := by
      rcases h with h | h
      · rcases isB_or h with h | h | h | h <;> simp [h]
      · simp [h]
    rcases hx with rfl | rfl | rfl | rfl | rfl <;> exact ⟨by decide, by decide, fun n => by simp [signF]⟩
  have main : ¬ (isB (w.getD 0 0) = true ∨ w.getD 0 0 = 35) := by
    intro h
    obtain ⟨h1, h2, h3⟩ := key _ h
    rcases hg.kinds with ⟨_, _, _, h4, _⟩ | ⟨_, _, _, h4, _⟩ | ⟨_, _, _, _, _, h4⟩
    · rw [h1] at h4; simp at h4
    · have : isD (w.getD 0 0) = true := by
        cases w with
        | nil => exact absurd rfl hg.ne
        | cons c t => exact h4.all c (by simp)
      rw [h2] at this; simp at this
    · rcases h4 with ⟨_, h4⟩ | ⟨_, h4⟩
      · rw [h3] at h4; omega
      · rw [h3] at h4; omega
  exact ⟨fun h => main (.inl h), fun h => main (.inr h)⟩
theorem Su.tok {t : TkD} {w u : List UInt8} {l : List TkD} (hg : Good t w) (hs : stopR u) (h : Su u l) : Su (w ++ u) (t :: l) := by
  intro p
  obtain ⟨l', h1, h2⟩ := h (p ++ w)
  have ho := good_one t w p u hg (stop_next t w u hg hs)
  have hf := good_first hg
  have h0 := getD_mid p w u hg.ne
  have hpos : 0 < w.length := List.length_pos_iff.2 hg.ne
  rw [List.append_assoc] at ho h0 h1
  rw [List.length_append] at h1
  refine ⟨{ t with pos := p.length } :: l', .tok (by simp; omega) (by rw [h0]; exact hf.1) (by rw [h0]; exact hf.2) ho h1, ?_⟩
  simp [h2, strip]
theorem Sc.good {s : List UInt8} {k : Nat} {l : List TkD} (h : Sc s k l) : ∀ t ∈ l, ∃ e : Nat, ∃ a : Nat, t.pos = a ∧ k ≤ a ∧ a < e ∧ e ≤ s.length ∧ Good t (cut s a e) := by
  induction h with
  | fin _ => intro t ht; simp at ht
  | blank hk hb _ ih =>
    intro t ht
    obtain ⟨e, a, h1, h2, h3⟩ := ih t ht
    exact ⟨e, a, h1, by omega, h3⟩
  | @hsh k l hk hh _ ih =>
    intro t ht
    obtain ⟨e, a, h1, h2, h3⟩ := ih t ht
    have := hash_gt' s k hk hh
    exact ⟨e, a, h1, by omega, h3⟩
  | @tok k e t l hk hb hh ho _ ih =>
    intro x hx
    obtain ⟨g1, g2, g3, g4, _⟩ := one_good s k e t hk ho
    rcases List.mem_cons.1 hx with rfl | hx
    · exact ⟨e, k, g2, by omega, g3, g4, g1⟩
    · obtain ⟨e', a, h1, h2, h3⟩ := ih x hx
      exact ⟨e', a, h1, by omega, h3⟩
theorem dg_back : ∀ (f : Nat) (d : List UInt8), (∀ c ∈ d, isD c = true) → (d.getD 0 0 ≠ 48) → d.length ≤ f → dg f (valF d) = d ∧ (d ≠ [] → 0 < valF d)
  | 0, d, hd, h0, hl => by
    have : d = [] := List.length_eq_zero_iff.1 (by omega)
    subst this
    exact ⟨rfl, fun h => absurd rfl h⟩
  | f + 1, d, hd, h0, hl => by
    by_cases hne : d = []
    · subst hne; exact ⟨dg_zero _, fun h => absurd rfl h⟩
    · obtain ⟨r, c, rfl⟩ : ∃ r c, d = r ++ [c] := ⟨d.dropLast, d.getLast hne, (List.dropLast_concat_getLast hne).symm⟩
      have hc := digit_le (hd c (by simp))
      have hv : valF (r ++ [c]) = valF r * 10 + (c.toNat - 48) := by
        unfold valF; rw [valA_append]; rfl
      by_cases hr : r = []
      · subst hr
        have hc48 : c ≠ 48 := by simpa using h0
        have hcn : c.toNat ≠ 48 := fun e => hc48 (UInt8.toNat.inj (by simpa using e))
        have hv1 : valF [c] = c.toNat - 48 := by simp [valF, valA]
        rw [List.nil_append, hv1, dg_step _ _ (by omega), show (c.toNat - 48) / 10 = 0 by omega, dg_zero, show 48 + (c.toNat - 48) % 10 = c.toNat by omega]
        exact ⟨by simp, fun _ => by omega⟩
      · have h0' : r.getD 0 0 ≠ 48 := by
          cases r with
          | nil => exact absurd rfl hr
          | cons x r => simpa using h0
        obtain ⟨ih1, ih2⟩ := dg_back f r (fun x hx => hd x (by simp [hx])) h0' (by simp at hl; omega)
        have hp := ih2 hr
        rw [hv, dg_step _ _ (by omega), show (valF r * 10 + (c.toNat - 48)) / 10 = valF r by omega, ih1, show 48 + (valF r * 10 + (c.toNat - 48)) % 10 = c.toNat by omega]
        exact ⟨by simp, fun _ => by omega⟩
theorem valA_low : ∀ (l : List UInt8) (acc : Nat), acc * 10 ^ l.length ≤ valA l acc
  | [], acc => by simp [valA]
  | c :: r, acc => by
    rw [valA_cons]
    refine Nat.le_trans ?_ (valA_low r _)
    rw [List.length_cons, Nat.pow_succ, Nat.mul_comm (10 ^ r.length) 10, ← Nat.mul_assoc]
    exact Nat.mul_le_mul_right _ (by omega)
theorem num_len {d : List UInt8} (hd : Num d) (hv : valF d < 9223372036854775808) : d.length ≤ 20 := by
  cases d with
  | nil => simp
  | cons c r =>
    by_cases h48 : c = 48
    · subst h48; have := hd.lead rfl; omega
    · have hc := digit_le (hd.all c (by simp))
      have hcn : c.toNat ≠ 48 := fun e => h48 (UInt8.toNat.inj (by simpa using e))
      have hlow := valA_low r (c.toNat - 48)
      have hvv : valF (c :: r) = valA r (c.toNat - 48) := by unfold valF; rw [valA_cons]; simp
      rw [hvv] at hv
      by_cases hl : r.length ≤ 18
      · simp; omega
      · exfalso
        have h1 : 10 ^ 19 ≤ 10 ^ r.length := Nat.pow_le_pow_right (by omega) (by omega)
        have h2 : 1 * 10 ^ r.length ≤ (c.toNat - 48) * 10 ^ r.length := Nat.mul_le_mul_right _ (by omega)
        have h3 : (10 : Nat) ^ 19 = 10000000000000000000 := by decide
        omega
theorem num_dec {d : List UInt8} (hd : Num d) (hv : valF d < 9223372036854775808) : decF (valF d) = d := by
  by_cases h48 : d.getD 0 0 = 48
  · have hl := hd.lead h48
    match d, hl with
    | [c], _ => simp at h48; subst h48; rfl
  · obtain ⟨h1, h2⟩ := dg_back 20 d hd.all h48 (num_len hd hv)
    have := h2 hd.ne
    unfold decF
    rw [if_neg (by omega), Int.toNat_natCast, h1]
def wordT (t : TkD) : List UInt8 := if t.kind = 1 ∨ t.kind = 3 then t.text else if t.kind = 2 then decF t.value else []
theorem Good.word {t : TkD} {w : List UInt8} (hg : Good t w) : wordT t = w := by
  unfold wordT
  rcases hg.kinds with ⟨h1, h2, _⟩ | ⟨h1, _, h3, h4, h5⟩ | ⟨h1, h2, _⟩
  · rw [if_pos (.inl h1), h2]
  · rw [if_neg (by omega), if_pos h1, h3, num_dec h4 h5]
  · rw [if_pos (.inr h1), h2]
end Go.Abs
namespace Go.Abs
open Go
theorem dec_dg : ∀ (f m : Nat), 0 < m → m < 10 ^ f → Lib.decDigits m = dg f m
  | 0, m, h0, h => by simp at h; omega
  | f + 1, m, h0, h => by
    rw [dg_step _ _ (by omega), Lib.decDigits]
    by_cases h9 : m < 10
    · rw [dif_pos h9, Nat.div_eq_of_lt h9, dg_zero, Nat.mod_eq_of_lt h9]; rfl
    · rw [dif_neg h9, dec_dg f (m / 10) (by omega) (by rw [Nat.pow_succ] at h; omega)]
theorem itoa_dec (v : Int) (h : v ≤ 9223372036854775807) : Lib.itoa (imax v 0) = decF v := by
  unfold decF Lib.itoa imax
  by_cases h0 : v ≤ 0
  · rw [if_pos h0]
    by_cases h1 : v < 0
    · simp [h1, Lib.decDigits]
    · have : v = 0 := by omega
      subst this
      simp [Lib.decDigits]
  · rw [if_neg h0, if_neg (by omega : ¬ v < 0)]
    rw [if_neg (by omega)]
    exact dec_dg 20 v.toNat (by omega) (by omega)
end Go.Abs
namespace Go.Abs
open Go
section
variable (op value : Int) (name : List UInt8) (slot size : Int) (args : List Ex) (place val : Ex) (body els : List Sm)
theorem Ex.op_mk : (Ex.mk op value name slot size args).op = op := rfl
theorem Ex.value_mk : (Ex.mk op value name slot size args).value = value := rfl
theorem Ex.name_mk : (Ex.mk op value name slot size args).name = name := rfl
theorem Ex.slot_mk : (Ex.mk op value name slot size args).slot = slot := rfl
theorem Ex.size_mk : (Ex.mk op value name slot size args).size = size := rfl
theorem Ex.args_mk : (Ex.mk op value name slot size args).args = args := rfl
theorem Sm.kind_mk : (Sm.mk op name slot size place val body els).kind = op := rfl
theorem Sm.name_mk : (Sm.mk op name slot size place val body els).name = name := rfl
theorem Sm.slot_mk : (Sm.mk op name slot size place val body els).slot = slot := rfl
theorem Sm.size_mk : (Sm.mk op name slot size place val body els).size = size := rfl
theorem Sm.place_mk : (Sm.mk op name slot size place val body els).place = place := rfl
theorem Sm.value_mk : (Sm.mk op name slot size place val body els).value = val := rfl
theorem Sm.body_mk : (Sm.mk op name slot size place val body els).body = body := rfl
theorem Sm.els_mk : (Sm.mk op name slot size place val body els).els = els := rfl
end
structure Pl where
  name : List UInt8
  slot : Int
  size : Int
def encPl (p : Pl) : PVal × Bool × List PVal := (.str p.name, true, [.int .i64 p.slot, .int .i64 p.size])
def plFind (n : List UInt8) : List Pl → Option (Int × Int)
  | [] => none
  | p :: r => if n = p.name then some (p.slot, p.size) else plFind n r
def plSet (n : List UInt8) (a b : Int) : List Pl → List Pl
  | [] => [⟨n, a, b⟩]
  | p :: r => if n = p.name then ⟨n, a, b⟩ :: r else p :: plSet n a b r
theorem mfind_enc (n : List UInt8) : ∀ l : List Pl, mfind (.str n) (l.map encPl) = (plFind n l).map fun q => (true, [.int .i64 q.1, .int .i64 q.2])
  | [] => rfl
  | p :: r => by
    simp only [List.map_cons, mfind, plFind]
    by_cases h : n = p.name
    · subst h; simp [keyEq, encPl]
    · have : keyEq (.str n) (encPl p).1 = false := by simp [keyEq, encPl, h]
      rw [this, if_neg h, if_neg (by simp)]
      exact mfind_enc n r
theorem mset_enc (n : List UInt8) (a b : Int) : ∀ l : List Pl, mset (.str n) (true, [.int .i64 a, .int .i64 b]) (l.map encPl) = (plSet n a b l).map encPl
  | [] => rfl
  | p :: r => by
    simp only [List.map_cons, mset, plSet]
    by_cases h : n = p.name
    · subst h; simp [keyEq, encPl]
    · have : keyEq (.str n) (encPl p).1 = false := by simp [keyEq, encPl, h]
      rw [this, if_neg h, if_neg (by simp)]
      simp [mset_enc n a b r]
abbrev Fl := Bool × Bool
def findF (pl : List Pl) (n : List UInt8) (arr : Bool) (f : Fl) : (Int × Int) × Fl :=
  match plFind n pl with
  | none => ((0, 0), (true, f.2))
  | some q => (q, (f.1, f.2 || (arr != decide (q.2 > 0))))
def headQ (pl : List Pl) (op : Int) (n : List UInt8) (a b : Int) (f : Fl) (k1 k2 : Int) : (Int × Int) × Fl :=
  if op = k1 then findF pl n false f else if op = k2 then findF pl n true f else ((a, b), f)
mutual
def rsE (pl : List Pl) : Ex → Fl → Ex × Fl
  | .mk op v n a b args, f =>
    (.mk op v n (headQ pl op n a b f 2 3).1.1 (headQ pl op n a b f 2 3).1.2 (rsEs pl args (headQ pl op n a b f 2 3).2).1, (rsEs pl args (headQ pl op n a b f 2 3).2).2)
def rsEs (pl : List Pl) : List Ex → Fl → List Ex × Fl
  | [], f => ([], f)
  | e :: r, f => ((rsE pl e f).1 :: (rsEs pl r (rsE pl e f).2).1, (rsEs pl r (rsE pl e f).2).2)
end
theorem rsE_eq (pl : List Pl) (e : Ex) (f : Fl) : rsE pl e f = (.mk e.op e.value e.name (headQ pl e.op e.name e.slot e.size f 2 3).1.1 (headQ pl e.op e.name e.slot e.size f 2 3).1.2 (rsEs pl e.args (headQ pl e.op e.name e.slot e.size f 2 3).2).1, (rsEs pl e.args (headQ pl e.op e.name e.slot e.size f 2 3).2).2) := by
  cases e; simp [rsE, Ex.op, Ex.value, Ex.name, Ex.slot, Ex.size, Ex.args]
theorem rsEs_len (pl : List Pl) : ∀ (l : List Ex) (f : Fl), (rsEs pl l f).1.length = l.length
  | [], f => by simp [rsEs]
  | e :: r, f => by simp [rsEs, rsEs_len pl r]
theorem rsEs_snoc (pl : List Pl) : ∀ (l : List Ex) (x : Ex) (f : Fl), rsEs pl (l ++ [x]) f = ((rsEs pl l f).1 ++ [(rsE pl x (rsEs pl l f).2).1], (rsE pl x (rsEs pl l f).2).2)
  | [], x, f => by simp [rsEs]
  | e :: r, x, f => by simp [rsEs, rsEs_snoc pl r]
mutual
def rsS (pl : List Pl) : Sm → Fl → Sm × Fl
  | .mk k n a b p v body els, f =>
    let q := headQ pl k n a b f 1 2
    let p' := rsE pl p q.2
    let v' := rsE pl v p'.2
    let b' := rsSs pl body v'.2
    let e' := rsSs pl els b'.2
    (.mk k n q.1.1 q.1.2 p'.1 v'.1 b'.1 e'.1, e'.2)
def rsSs (pl : List Pl) : List Sm → Fl → List Sm × Fl
  | [], f => ([], f)
  | e :: r, f => ((rsS pl e f).1 :: (rsSs pl r (rsS pl e f).2).1, (rsSs pl r (rsS pl e f).2).2)
end
def rsQ (pl : List Pl) (s : Sm) (f : Fl) := headQ pl s.kind s.name s.slot s.size f 1 2
def rsP (pl : List Pl) (s : Sm) (f : Fl) := rsE pl s.place (rsQ pl s f).2
def rsV (pl : List Pl) (s : Sm) (f : Fl) := rsE pl s.value (rsP pl s f).2
def rsB (pl : List Pl) (s : Sm) (f : Fl) := rsSs pl s.body (rsV pl s f).2
def rsL (pl : List Pl) (s : Sm) (f : Fl) := rsSs pl s.els (rsB pl s f).2
theorem rsS_eq (pl : List Pl) (s : Sm) (f : Fl) : rsS pl s f = (.mk s.kind s.name (rsQ pl s f).1.1 (rsQ pl s f).1.2 (rsP pl s f).1 (rsV pl s f).1 (rsB pl s f).1 (rsL pl s f).1, (rsL pl s f).2) := by
  cases s; simp [rsS, rsL, rsB, rsV, rsP, rsQ, Sm.kind, Sm.name, Sm.slot, Sm.size, Sm.place, Sm.value, Sm.body, Sm.els]
theorem rsSs_len (pl : List Pl) : ∀ (l : List Sm) (f : Fl), (rsSs pl l f).1.length = l.length
  | [], f => by simp [rsSs]
  | e :: r, f => by simp [rsSs, rsSs_len pl r]
theorem rsSs_snoc (pl : List Pl) : ∀ (l : List Sm) (x : Sm) (f : Fl), rsSs pl (l ++ [x]) f = ((rsSs pl l f).1 ++ [(rsS pl x (rsSs pl l f).2).1], (rsS pl x (rsSs pl l f).2).2)
  | [], x, f => by simp [rsSs]
  | e :: r, x, f => by simp [rsSs, rsSs_snoc pl r]
theorem rsEs_take (pl : List Pl) (l : List Ex) (f : Fl) (k : Nat) (h : k < l.length) : rsEs pl (l.take (k + 1)) f = ((rsEs pl (l.take k) f).1 ++ [(rsE pl l[k] (rsEs pl (l.take k) f).2).1], (rsE pl l[k] (rsEs pl (l.take k) f).2).2) := by rw [List.take_succ_eq_append_getElem h, rsEs_snoc]
theorem rsSs_take (pl : List Pl) (l : List Sm) (f : Fl) (k : Nat) (h : k < l.length) : rsSs pl (l.take (k + 1)) f = ((rsSs pl (l.take k) f).1 ++ [(rsS pl l[k] (rsSs pl (l.take k) f).2).1], (rsS pl l[k] (rsSs pl (l.take k) f).2).2) := by rw [List.take_succ_eq_append_getElem h, rsSs_snoc]
def dupP : List Pl → List VarD → Option (List Pl)
  | es, [] => some es
  | es, v :: r => if (plFind v.name es).isSome then none else dupP (plSet v.name 0 0 es) r
def fillP : List Pl → List Int → List VarD → Option (List Pl × List Int)
  | es, xs, [] => some (es, xs)
  | es, xs, v :: r => if mx v.size 1 > 32 - xs.length then none else fillP (plSet v.name xs.length v.size es) (xs ++ [v.init] ++ List.replicate ((mx v.size 1).toNat - 1) 0) r
structure CdD where
  init : List Int
  start : List Sm
  message : List Sm
  tick : List Sm
  input : List Sm
def enc1 (n : Int) : List PVal := [.int .i64 n]
def cdA (c : CdD) : AVal := .agg [.pv (.slice (c.init.map enc1)), .pv (.slice (c.start.map encSm)), .pv (.slice (c.message.map encSm)), .pv (.slice (c.tick.map encSm)), .pv (.slice (c.input.map encSm))]
def cd0 : CdD := ⟨[], [], [], [], []⟩
def rs4 (pl : List Pl) (p : PgD) : (List Sm × List Sm × List Sm × List Sm) × Fl :=
  let a := rsSs pl p.start (false, false)
  let b := rsSs pl p.message a.2
  let c := rsSs pl p.tick b.2
  let d := rsSs pl p.input c.2
  ((a.1, b.1, c.1, d.1), d.2)
def finR (xs : List Int) (r : (List Sm × List Sm × List Sm × List Sm) × Fl) : CdD × Int :=
  if r.2.1 then (cd0, 2) else if r.2.2 then (cd0, 7) else (⟨xs, r.1.1, r.1.2.1, r.1.2.2.1, r.1.2.2.2⟩, 0)
def resolveF (p : PgD) : CdD × Int :=
  if checkF goodSFs p ≠ 0 then (cd0, checkF goodSFs p)
  else if p.vars.length > 16 then (cd0, 4)
  else match dupP [] p.vars with
    | none => (cd0, 2)
    | some es => match fillP es [] p.vars with
      | none => (cd0, 4)
      | some q => finR q.2 (rs4 q.1 p)
end Go.Abs
namespace Go.Abs
open Go
end Go.Abs
namespace Go.Abs
open Go
end Go.Abs
namespace Go.Abs
open Go
end Go.Abs
namespace Go.Abs
open Go
end Go.Abs
namespace Go.Abs
open Go
end Go.Abs
namespace Go.Abs
open Go
end Go.Abs
namespace Go.Abs
open Go
end Go.Abs
namespace Go.Abs
open Go
end Go.Abs
namespace Go.Abs
open Go
def opdT (q : Bool × List UInt8) : List UInt8 := if q.1 then 40 :: (q.2 ++ [41]) else q.2
def fmN (op value : Int) (nm : List UInt8) (ts : List (Bool × List UInt8)) : List UInt8 :=
  if op = 1 then decF value else if op = 2 then nm
  else if op = 3 then nm ++ 91 :: ((ts.getD 0 (false, [])).2 ++ [93])
  else if op = 4 then [115, 101, 108, 102] else if op = 5 then [112, 114, 111, 99, 115] else if op = 6 then [102, 114, 111, 109] else if op = 7 then [118, 97, 108, 117, 101]
  else if op = 8 ∨ op = 9 then sgF op.toNat ++ opdT (ts.getD 0 (false, []))
  else opdT (ts.getD 0 (false, [])) ++ 32 :: (sgF op.toNat ++ 32 :: opdT (ts.getD 1 (false, [])))
mutual
def fmE : Ex → List UInt8
  | .mk op value nm _ _ args => fmN op value nm (fmEs args)
def fmEs : List Ex → List (Bool × List UInt8)
  | [] => []
  | e :: r => (decide (e.op ≥ 8), fmE e) :: fmEs r
end
def indT (n : Nat) : List UInt8 := List.replicate (2 * n) 32
def fmS (kind : Int) (nm place value body els : List UInt8) (he : Bool) (n : Nat) : List UInt8 :=
  if kind = 1 then nm ++ [32, 61, 32] ++ value ++ [59, 10]
  else if kind = 2 then nm ++ [91] ++ place ++ [93, 32, 61, 32] ++ value ++ [59, 10]
  else if kind = 5 then [115, 101, 110, 100, 32] ++ place ++ [44, 32] ++ value ++ [59, 10]
  else if kind = 6 then [111, 117, 116, 112, 117, 116, 32] ++ value ++ [59, 10]
  else (if kind = 3 then [105, 102, 32] else [119, 104, 105, 108, 101, 32]) ++ value ++ [32, 123, 10] ++ body ++ indT n ++ (if he then [125, 32, 101, 108, 115, 101, 32, 123, 10] ++ els ++ indT n else []) ++ [125, 10]
mutual
def stT (n : Nat) : Sm → List UInt8
  | .mk kind nm _ _ place value body els => fmS kind nm (fmE place) (fmE value) (lsT (n + 1) body) (lsT (n + 1) els) (decide (els.length > 0)) n
def lsT (n : Nat) : List Sm → List UInt8
  | [] => []
  | s :: r => indT n ++ stT n s ++ lsT n r
end
def hdT (nm : List UInt8) (l : List Sm) : List UInt8 := if l.length = 0 then [] else [111, 110, 32] ++ nm ++ [32, 123, 10] ++ lsT 1 l ++ [125, 10]
def itT (n : Int) : List UInt8 := if n < 0 then 45 :: decF (-n) else decF n
def vaT (v : VarD) : List UInt8 := if v.size ≠ 0 then [97, 114, 114, 97, 121, 32] ++ v.name ++ [91] ++ itT v.size ++ [93, 59, 10] else if v.init ≠ 0 then [118, 97, 114, 32] ++ v.name ++ [32, 61, 32] ++ itT v.init ++ [59, 10] else [118, 97, 114, 32] ++ v.name ++ [59, 10]
def vsT (l : List VarD) : List UInt8 := (l.map vaT).flatten
def pgT (p : PgD) : List UInt8 := vsT p.vars ++ hdT [115, 116, 97, 114, 116] p.start ++ hdT [109, 101, 115, 115, 97, 103, 101] p.message ++ hdT [116, 105, 99, 107] p.tick ++ hdT [105, 110, 112, 117, 116] p.input
def fmtF (p : PgD) : List UInt8 × Int :=
  if checkF goodSFs p ≠ 0 then ([], checkF goodSFs p) else if ((pgT p).length : Int) > 4096 then ([], 5) else (pgT p, 0)
theorem itoa_it (n : Int) (h0 : -9223372036854775808 ≤ n) (h1 : n ≤ 9223372036854775807) : Lib.itoa n = itT n := by
  unfold itT
  by_cases h : n < 0
  · rw [if_pos h]
    have e := dec_dg 20 n.natAbs (by omega) (by omega)
    unfold Lib.itoa decF
    rw [if_pos h, if_neg (by omega), e]
    congr 2
    omega
  · rw [if_neg h]
    have := itoa_dec n h1
    rw [show imax n 0 = n by unfold imax; split <;> omega] at this
    exact this
end Go.Abs
namespace Go.Abs
open Go
theorem decF_facts (n : Int) (h0 : 0 ≤ n) (h : n ≤ 9223372036854775808) : decF n ≠ [] ∧ (∀ c ∈ decF n, isD c = true) ∧ (valF (decF n) : Int) = n ∧ ((decF n).head? = some 48 → n = 0) ∧ (decF n).length ≤ 19 := by
  by_cases hn : n ≤ 0
  · have : n = 0 := by omega
    subst this
    exact ⟨by decide, by decide, by decide, fun _ => rfl, by decide⟩
  · have e : decF n = dg 20 n.toNat := by unfold decF; rw [if_neg hn]
    have e2 : dg 20 n.toNat = dg 19 n.toNat := dg_more 19 n.toNat (by omega)
    obtain ⟨c, r, h1, h2, h3⟩ := dg_head 20 n.toNat (by omega) (by omega)
    refine ⟨by rw [e, h1]; simp, fun c hc => dg_all 20 n.toNat c (by rw [← e]; exact hc), by rw [e, dg_val 20 n.toNat (by omega)]; omega, fun hh => ?_, by rw [e, e2]; exact dg_len _ _⟩
    rw [e, h1] at hh
    simp at hh
    exact absurd hh h2
def dgs (w : List UInt8) : List UInt8 := if w.head? = some 45 then w.tail else w
def numR (w : List UInt8) : Int × Bool :=
  if dgs w = [] ∨ 19 < (dgs w).length ∨ ((dgs w).head? = some 48 ∧ (1 < (dgs w).length ∨ 1 < w.length)) then (0, false)
  else if (dgs w).all isD = false then (0, false)
  else if (dgs w).length < w.length then (IntKind.i64.wrap (-(valF (dgs w) : Int)), decide (valF (dgs w) ≤ 9223372036854775808))
  else (IntKind.i64.wrap (valF (dgs w)), decide (valF (dgs w) < 9223372036854775808))
theorem dec_head45 (n : Int) (h0 : 0 ≤ n) (h : n ≤ 9223372036854775808) : (decF n).head? ≠ some 45 := by
  intro hh
  obtain ⟨_, h2, _⟩ := decF_facts n h0 h
  have := digit_le (h2 45 (List.mem_of_mem_head? hh))
  have h3 : (45 : UInt8).toNat = 45 := rfl
  omega
theorem dgs_neg (v : Int) (h : v < 0) : itT v = 45 :: decF (-v) ∧ dgs (itT v) = decF (-v) := by
  have e : itT v = 45 :: decF (-v) := by unfold itT; rw [if_pos h]
  exact ⟨e, by rw [e]; simp [dgs]⟩
theorem dgs_pos (v : Int) (h : 0 ≤ v) (h1 : v ≤ 9223372036854775807) : itT v = decF v ∧ dgs (itT v) = decF v := by
  have e : itT v = decF v := by unfold itT; rw [if_neg (by omega)]
  refine ⟨e, ?_⟩
  rw [e]
  unfold dgs
  rw [if_neg (dec_head45 v h (by omega))]
theorem numR_it (v : Int) (h0 : -9223372036854775808 ≤ v) (h1 : v ≤ 9223372036854775807) : numR (itT v) = (v, true) := by
  by_cases h : v < 0
  · obtain ⟨e1, e2⟩ := dgs_neg v h
    obtain ⟨f1, f2, f3, f4, f5⟩ := decF_facts (-v) (by omega) (by omega)
    unfold numR
    rw [e2, e1, if_neg (by rintro (h' | h' | ⟨h', _⟩); exact f1 h'; omega; have := f4 h'; omega), if_neg (by simpa using f2), if_pos (by simp)]
    rw [f3, wrap64 _ (by omega) (by omega)]
    simp
    omega
  · obtain ⟨e1, e2⟩ := dgs_pos v (by omega) h1
    obtain ⟨f1, f2, f3, f4, f5⟩ := decF_facts v (by omega) (by omega)
    unfold numR
    rw [e2, e1, if_neg (by rintro (h' | h' | ⟨h', h''⟩); exact f1 h'; omega; have := f4 h'; subst this; exact absurd h'' (by decide)), if_neg (by simpa using f2), if_neg (by simp)]
    rw [f3, wrap64 _ (by omega) (by omega)]
    simp
    omega
theorem dec_back (d : List UInt8) (hne : d ≠ []) (hall : ∀ c ∈ d, isD c = true) (hh : d.head? = some 48 → d.length = 1) (hl : d.length ≤ 19) : decF (valF d) = d ∧ (d.head? ≠ some 48 → 0 < valF d) := by
  have hg : d.getD 0 0 = 48 ↔ d.head? = some 48 := by
    cases d with
    | nil => exact absurd rfl hne
    | cons c r => simp
  by_cases h48 : d.head? = some 48
  · refine ⟨?_, fun h => absurd h48 h⟩
    match d, hh h48 with
    | [c], _ => simp at h48; subst h48; rfl
  · obtain ⟨h1, h2⟩ := dg_back 20 d hall (fun e => h48 (hg.1 e)) (by omega)
    have h3 := h2 hne
    refine ⟨?_, fun _ => h3⟩
    unfold decF
    rw [if_neg (by omega), Int.toNat_natCast, h1]
theorem numR_back (w : List UInt8) (h : (numR w).2 = true) : itT (numR w).1 = w ∧ -9223372036854775808 ≤ (numR w).1 ∧ (numR w).1 ≤ 9223372036854775807 := by
  unfold numR at h ⊢
  split at h
  · cases h
  · rename_i hc
    rw [if_neg hc]
    split at h
    · cases h
    · rename_i ha
      rw [if_neg ha]
      have hall : ∀ c ∈ dgs w, isD c = true := by simpa using ha
      have hne : dgs w ≠ [] := fun e => hc (.inl e)
      have hl : (dgs w).length ≤ 19 := by
        rcases Nat.lt_or_ge 19 (dgs w).length with h' | h'
        · exact absurd (.inr (.inl h')) hc
        · exact h'
      have hlead : (dgs w).head? = some 48 → (dgs w).length ≤ 1 ∧ w.length ≤ 1 := by
        intro h48
        refine ⟨?_, ?_⟩
        · rcases Nat.lt_or_ge 1 (dgs w).length with h' | h'
          · exact absurd (.inr (.inr ⟨h48, .inl h'⟩)) hc
          · exact h'
        · rcases Nat.lt_or_ge 1 w.length with h' | h'
          · exact absurd (.inr (.inr ⟨h48, .inr h'⟩)) hc
          · exact h'
      have hpos : 0 < (dgs w).length := List.length_pos_iff.2 hne
      have hb := dec_back (dgs w) hne hall (fun h48 => by have := (hlead h48).1; omega) hl
      split at h
      · rename_i hlt
        rw [if_pos hlt]
        have hv : valF (dgs w) ≤ 9223372036854775808 := by simpa using h
        have h45 : w.head? = some 45 := by
          rcases Decidable.em (w.head? = some 45) with h' | h'
          · exact h'
          · exfalso
            unfold dgs at hlt
            rw [if_neg h'] at hlt
            omega
        have hw : w = 45 :: dgs w := by
          cases w with
          | nil => simp at h45
          | cons c r => simp at h45; subst h45; simp [dgs]
        have h48 : (dgs w).head? ≠ some 48 := fun e => by have := (hlead e).2; omega
        have hp := hb.2 h48
        have e1 : IntKind.i64.wrap (-(valF (dgs w) : Int)) = -(valF (dgs w) : Int) := wrap64 _ (by omega) (by omega)
        simp only [e1]
        refine ⟨?_, by omega, by omega⟩
        unfold itT
        rw [if_pos (by omega), Int.neg_neg, hb.1]
        exact hw.symm
      · rename_i hlt
        rw [if_neg hlt]
        have hv : valF (dgs w) < 9223372036854775808 := by simpa using h
        have hw : dgs w = w := by
          unfold dgs
          split
          · rename_i h45
            exfalso
            unfold dgs at hlt
            rw [if_pos h45] at hlt
            cases w with
            | nil => simp at h45
            | cons c r => simp at hlt
          · rfl
        have e1 : IntKind.i64.wrap (valF (dgs w) : Int) = (valF (dgs w) : Int) := wrap64 _ (by omega) (by omega)
        simp only [e1]
        refine ⟨?_, by omega, by omega⟩
        unfold itT
        rw [if_neg (by omega), hb.1, hw]
theorem parse_it (v : Int) (h0 : -9223372036854775808 ≤ v) (h1 : v ≤ 9223372036854775807) : Lib.parseIntB 64 (itT v) = .ok v := by
  by_cases h : v < 0
  · obtain ⟨e1, _⟩ := dgs_neg v h
    obtain ⟨f1, f2, f3, f4, f5⟩ := decF_facts (-v) (by omega) (by omega)
    have hu : Lib.parseUintB 64 (decF (-v)) = .ok (valF (decF (-v))) := by
      unfold Lib.parseUintB
      rw [if_neg f1, parseUintM_eq _ (by decide) _ _ f2 (by omega)]
      rw [if_pos]
      · rfl
      · show valF (decF (-v)) ≤ 2 ^ 64 - 1
        omega
    rw [e1]
    unfold Lib.parseIntB
    have h45 : (45 : UInt8).toNat = 45 := rfl
    simp only [h45, or_true, if_true, hu]
    rw [if_neg (by simp), if_neg (by simp; omega)]
    congr 1
    omega
  · obtain ⟨e1, _⟩ := dgs_pos v (by omega) h1
    obtain ⟨f1, f2, f3, f4, f5⟩ := decF_facts v (by omega) (by omega)
    rw [e1, parseInt_eq _ f1 f2, if_pos (by omega), f3]
theorem parse_rg (w : List UInt8) (v : Int) (h : Lib.parseIntB 64 w = .ok v) : -9223372036854775808 ≤ v ∧ v ≤ 9223372036854775807 := by
  unfold Lib.parseIntB at h
  cases w with
  | nil => cases h
  | cons c r =>
    simp only at h
    split at h
    · cases h
    · cases h
    · split at h
      · cases h
      · split at h
        · cases h
        · rename_i u _ h1 h2
          cases h
          simp at h1 h2
          split
          · rename_i hn; have := h2 hn; omega
          · rename_i hn; have := h1 hn; omega
def numG (w : List UInt8) : Int × Bool := match Lib.parseIntB 64 w with
  | .ok v => if Lib.itoa v = w then (v, true) else (0, false)
  | _ => (0, false)
theorem numG_eq (w : List UInt8) : numG w = if (numR w).2 = true then ((numR w).1, true) else (0, false) := by
  by_cases h : (numR w).2 = true
  · obtain ⟨h1, h2, h3⟩ := numR_back w h
    rw [if_pos h]
    unfold numG
    rw [show Lib.parseIntB 64 w = .ok (numR w).1 by rw [← parse_it _ h2 h3, h1]]
    simp only
    rw [itoa_it _ h2 h3, if_pos h1]
  · rw [if_neg h]
    unfold numG
    split
    · rename_i v hv
      obtain ⟨h2, h3⟩ := parse_rg w v hv
      rw [if_neg]
      intro hw
      rw [itoa_it _ h2 h3] at hw
      exact h (by rw [← hw, numR_it v h2 h3])
    · rfl
end Go.Abs
namespace Go.Abs
open Go
end Go.Abs
namespace Go.Abs
open Go
structure StD where
  kind : Int
  proc : Int
  place : Int
  value : Int
  deriving DecidableEq
def encSt (x : StD) : List PVal := [.int .i64 x.kind, .int .i64 x.proc, .int .i64 x.place, .int .i64 x.value]
def stA (x : StD) : AVal := .agg [.pv (.int .i64 x.kind), .pv (.int .i64 x.proc), .pv (.int .i64 x.place), .pv (.int .i64 x.value)]
def st0 : StD := ⟨0, 0, 0, 0⟩
def wdsT : List (List UInt8) := [[], [100, 101, 108, 105, 118, 101, 114], [116, 105, 99, 107], [105, 110, 112, 117, 116], [100, 114, 111, 112], [100, 117, 112, 108, 105, 99, 97, 116, 101], [114, 101, 115, 101, 110, 100], [99, 104, 101, 99, 107, 112, 111, 105, 110, 116], [102, 108, 117, 115, 104], [97, 99, 107], [99, 114, 97, 115, 104], [114, 101, 99, 111, 118, 101, 114], [114, 101, 115, 116, 111, 114, 101], [99, 111, 109, 109, 105, 116], [99, 111, 108, 108, 101, 99, 116]]
def prsT : List (List UInt8) := [[], [105, 110, 100, 101, 112, 101, 110, 100, 101, 110, 116], [99, 111, 111, 114, 100, 105, 110, 97, 116, 101, 100], [105, 110, 100, 101, 120, 101, 100], [109, 111, 100, 101, 108, 98, 97, 115, 101, 100], [112, 101, 115, 115, 105, 109, 105, 115, 116, 105, 99], [115, 101, 110, 100, 101, 114, 98, 97, 115, 101, 100], [111, 112, 116, 105, 109, 105, 115, 116, 105, 99], [99, 97, 117, 115, 97, 108]]
def wdF (k : Int) : List UInt8 := if k < 1 ∨ 14 < k then [] else wdsT.getD k.toNat []
def prF (k : Int) : List UInt8 := if k < 1 ∨ 8 < k then [] else prsT.getD k.toNat []
def shF (k : Int) : Nat := if k = 1 ∨ k = 4 ∨ k = 5 then 1 else if k = 2 ∨ k = 3 ∨ k = 10 then 2 else if k = 6 ∨ k = 7 ∨ k = 8 ∨ k = 9 ∨ k = 12 then 3 else 0
def zeroF (x : StD) : Bool := match shF x.kind with
  | 1 => x.proc == 0 && x.value == 0
  | 2 => x.place == 0
  | 3 => x.place == 0 && x.value == 0
  | _ => x.proc == 0 && x.place == 0 && x.value == 0
def mkSt (k : Int) (ns : List Int) : StD := match shF k with
  | 1 => ⟨k, 0, ns.getD 0 0, 0⟩
  | 2 => ⟨k, ns.getD 0 0, 0, ns.getD 1 0⟩
  | 3 => ⟨k, ns.getD 0 0, 0, 0⟩
  | _ => ⟨k, 0, 0, 0⟩
def nfF (k : Int) : Nat := match shF k with | 1 => 1 | 2 => 2 | 3 => 1 | _ => 0
def kdF (w : List UInt8) : Int := if w = [] then 0 else (wdsT.idxOf w : Int)
def stepL (a : List UInt8) (l : List (List UInt8)) : Option StD :=
  if kdF a < 1 ∨ 14 < kdF a then none
  else if l.length ≠ nfF (kdF a) then none
  else if (l.all fun w => (numR w).2) = false then none
  else some (mkSt (kdF a) (l.map fun w => (numR w).1))
def stepF (line : List UInt8) : Option StD := match splitF 32 line with
  | [] => none
  | a :: l => stepL a l
/-! ### Cutting and joining -/
def joinF (c : UInt8) : List (List UInt8) → List UInt8
  | [] => []
  | [a] => a
  | a :: b :: r => a ++ c :: joinF c (b :: r)
theorem join_split (c : UInt8) : ∀ s, joinF c (splitF c s) = s
  | [] => rfl
  | x :: r => by
    have ih := join_split c r
    have hne := splitF_ne c r
    rw [splitF]
    split
    · rename_i h
      subst h
      match splitF x r, hne, ih with
      | a :: t, _, ih => simp [joinF, ih]
    · match splitF c r, hne, ih with
      | [a], _, ih => simpa [joinF] using ih
      | a :: b :: t, _, ih => simp [joinF] at ih ⊢; exact ih
end Go.Abs
namespace Go.Abs
open Go
theorem wd_range (P : Int → Prop) (h : P 1 ∧ P 2 ∧ P 3 ∧ P 4 ∧ P 5 ∧ P 6 ∧ P 7 ∧ P 8 ∧ P 9 ∧ P 10 ∧ P 11 ∧ P 12 ∧ P 13 ∧ P 14) (k : Int) (h1 : 1 ≤ k) (h2 : k ≤ 14) : P k := by
  obtain ⟨a1, a2, a3, a4, a5, a6, a7, a8, a9, a10, a11, a12, a13, a14⟩ := h
  have : k = 1 ∨ k = 2 ∨ k = 3 ∨ k = 4 ∨ k = 5 ∨ k = 6 ∨ k = 7 ∨ k = 8 ∨ k = 9 ∨ k = 10 ∨ k = 11 ∨ k = 12 ∨ k = 13 ∨ k = 14 := by omega
  rcases this with rfl | rfl | rfl | rfl | rfl | rfl | rfl | rfl | rfl | rfl | rfl | rfl | rfl | rfl <;> assumption
theorem kd_wd (k : Int) (h1 : 1 ≤ k) (h2 : k ≤ 14) : kdF (wdF k) = k := by
  refine wd_range (fun k => kdF (wdF k) = k) ?_ k h1 h2
  decide
theorem wd_kd (w : List UInt8) (h1 : 1 ≤ kdF w) (h2 : kdF w ≤ 14) : wdF (kdF w) = w := by
  have hw : w ≠ [] := by
    rintro rfl
    simp [kdF] at h1
  have hk : kdF w = (wdsT.idxOf w : Int) := by unfold kdF; rw [if_neg hw]
  have hlt : wdsT.idxOf w < wdsT.length := by
    have : wdsT.length = 15 := rfl
    omega
  unfold wdF
  rw [if_neg (by omega), hk, Int.toNat_natCast]
  have := List.getElem_idxOf hlt
  simp only [List.getD, List.getElem?_eq_getElem hlt, Option.getD_some]
  exact this
end Go.Abs
namespace Go.Abs
open Go
end Go.Abs
