/- A sound walk of the program by abstract states, part 3: its theorems have no condition beyond what they state. -/
import Derived.Test.YtopbicbgolcmpaaGreatDoorLib2
import Derived.Defers
import Derived.Recover
import Derived.KernelRfl
import Derived.Below
import Derived.Lib.ParseIntB
import Derived.Lib.Bytealg
import Derived.Lib.Join
import Derived.Lib.ItoaNum
set_option linter.unusedSimpArgs false
set_option linter.unusedVariables false
set_option linter.defProp false
namespace Go.Abs
open Go
variable {P : Program} {env : Env} {pin : Nat} {σ : St} {Q : Exit → St → Prop}
theorem aopE1 : ∀ (env : Env) (dst : Option Nat) (ev : Operand → AVal) (ob : Nat → Option AObj), ∀ x, aop env dst ev ob (.move x) = (some ⟨ev x, []⟩) := fun _ _ _ _ _ => rfl
theorem aopE2 : ∀ (env : Env) (dst : Option Nat) (ev : Operand → AVal) (ob : Nat → Option AObj), ∀ x, aop env dst ev ob (.assign x) = (some ⟨ev x, []⟩) := fun _ _ _ _ _ => rfl
theorem aopE3 : ∀ (env : Env) (dst : Option Nat) (ev : Operand → AVal) (ob : Nat → Option AObj), ∀ c a b, aop env dst ev ob (.pick c a b) = (match ev c with
    | .pv (.bool t) => some ⟨if t then ev a else ev b, []⟩
    | _ => none) := fun _ _ _ _ _ _ _ => rfl
theorem aopE4 : ∀ (env : Env) (dst : Option Nat) (ev : Operand → AVal) (ob : Nat → Option AObj), ∀ t, aop env dst ev ob (.alloc t) = (match env.ty t, dst with
    | some ty, some d => match ty.zero, ob (env.site d) with
      | some z, none => if env.site d < env.nobj ∧ z.all AVal.isCell = true then some ⟨.ref (env.site d) 0, [(env.site d, .cells z)]⟩ else none
      | _, _ => none
    | _, _ => none) := fun _ _ _ _ _ => rfl
theorem aopE5 : ∀ (env : Env) (dst : Option Nat) (ev : Operand → AVal) (ob : Nat → Option AObj), ∀ z1 x, aop env dst ev ob (.box z1 x) = (match dst with
    | some d => match ob (env.site d) with
      | none => if env.site d < env.nobj ∧ (ev x).cells.all AVal.isCell = true then some ⟨.ref (env.site d) 0, [(env.site d, .cells (ev x).cells)]⟩ else none
      | _ => none
    | none => none) := fun _ _ _ _ _ _ => rfl
theorem aopE6 : ∀ (env : Env) (dst : Option Nat) (ev : Operand → AVal) (ob : Nat → Option AObj), ∀ t parts, aop env dst ev ob (.build t parts) = (match env.ty t with
    | some ty => match ty.zero, ty.kind with
      | some z, .struct => if (ty.fields.all fun q => decide (0 < q.2)) = false then none else (afill (fun i => ty.fields[i]?) z (parts.toList.map fun q => (q.1, ev q.2))).map fun cs => ⟨.agg cs, []⟩
      | some z, .array _ => if ty.eSize = 0 then none else (afill (fun i => some (i * ty.eSize, ty.eSize)) z (parts.toList.map fun q => (q.1, ev q.2))).map fun cs => ⟨.agg cs, []⟩
      | _, _ => none
    | none => none) := fun _ _ _ _ _ _ => rfl
theorem aopE7 : ∀ (env : Env) (dst : Option Nat) (ev : Operand → AVal) (ob : Nat → Option AObj), ∀ t len parts, aop env dst ev ob (.buildSlice t len parts) = (match env.ty t with
    | some ty => match ty.kind with
      | .slice => if 0 < ty.eSize ∧ parts.size = len ∧ len * ty.eSize ≤ 65536 ∧ ty.eZero = true then
          match arows ty.eSize 0 (parts.toList.map fun q => (q.1, ev q.2)) with
          | some xs => some ⟨.pv (.slice xs), []⟩
          | none => none
        else none
      | _ => none
    | none => none) := fun _ _ _ _ _ _ _ => rfl
theorem aopE8 : ∀ (env : Env) (dst : Option Nat) (ev : Operand → AVal) (ob : Nat → Option AObj), ∀ t p, aop env dst ev ob (.load t p) = (match env.ty t, ev p with
    | some ty, .ref id off => match ob id with
      | some (.cells cs) => if off + ty.size ≤ cs.length ∧ 0 < ty.size then
          some ⟨if ty.agg then .agg ((cs.drop off).take ty.size) else cs.getD off .junk, []⟩ else none
      | _ => none
    | some ty, .pv (.ptr cs) => if ty.size ≤ cs.length ∧ 0 < ty.size then
          some ⟨if ty.agg then .agg ((cs.take ty.size).map .pv) else .pv (cs.getD 0 .nilptr), []⟩ else none
    | some ty, .eref id i j sz => match ob id with
      | some (.row sz' xs) => if sz = sz' ∧ i < xs.length ∧ j + ty.size ≤ sz ∧ 0 < ty.size then
          some ⟨if ty.agg then .agg ((((xs.getD i []).drop j).take ty.size).map .pv) else .pv (pcell xs i j), []⟩ else none
      | _ => none
    | _, _ => none) := fun _ _ _ _ _ _ => rfl
theorem aopE9 : ∀ (env : Env) (dst : Option Nat) (ev : Operand → AVal) (ob : Nat → Option AObj), ∀ t p x, aop env dst ev ob (.store t p x) = (match env.ty t, ev p with
    | some ty, .ref id off => match ob id with
      | some (.cells cs) => if (ev x).cells.length = ty.size ∧ off + ty.size ≤ cs.length ∧ (ev x).cells.all AVal.isCell = true then
          some ⟨.junk, [(id, .cells (splice cs off (ev x).cells))]⟩ else none
      | _ => none
    | some ty, .eref id i j sz => match ob id, toPs (ev x).cells with
      | some (.row sz' xs), some ps => if sz = sz' ∧ i < xs.length ∧ j + ty.size ≤ sz ∧ ps.length = ty.size then
          some ⟨.junk, [(id, .row sz' (rowSet xs i j ps))]⟩ else none
      | _, _ => none
    | _, _ => none) := fun _ _ _ _ _ _ _ => rfl
theorem aopE10 : ∀ (env : Env) (dst : Option Nat) (ev : Operand → AVal) (ob : Nat → Option AObj), ∀ x, aop env dst ev ob (.nilCheck x) = (match ev x with
    | .ref id off => some ⟨.ref id off, []⟩
    | .eref id i j sz => some ⟨.eref id i j sz, []⟩
    | .pv (.ptr cs) => some ⟨.pv (.ptr cs), []⟩
    | _ => none) := fun _ _ _ _ _ => rfl
theorem aopE11 : ∀ (env : Env) (dst : Option Nat) (ev : Operand → AVal) (ob : Nat → Option AObj), ∀ op t x y z1, aop env dst ev ob (.binOp op t x y z1) = (match ev x, ev y with
    | .pv p, .pv q => (if isNilC y = true then anil op ((env.ty t).map Ty.kind) p else abin op ((env.ty t).map Ty.kind) p q).map fun r => ⟨.pv r, []⟩
    | .agg cs, .agg ds => (aeqS op ((env.ty t).bind Ty.eqs) cs ds).map fun b => ⟨.pv (.bool b), []⟩
    | _, _ => none) := fun _ _ _ _ _ _ _ _ _ => rfl
theorem aopE12 : ∀ (env : Env) (dst : Option Nat) (ev : Operand → AVal) (ob : Nat → Option AObj), ∀ op z1 x, aop env dst ev ob (.unOp op z1 x) = (match op, ev x with
    | .not, .pv (.bool b) => some ⟨.pv (.bool !b), []⟩
    | .neg, .pv (.int k n) => some ⟨.pv (.int k (k.wrap (0 - n))), []⟩
    | _, _ => none) := fun _ _ _ _ _ _ _ => rfl
theorem aopE13 : ∀ (env : Env) (dst : Option Nat) (ev : Operand → AVal) (ob : Nat → Option AObj), ∀ st dt x, aop env dst ev ob (.convert st dt x) = (match env.ty st, env.ty dt, ev x with
    | some _, some ty, .pv (.int _ n) => match ty.kind with
      | .int k => some ⟨.pv (.int k (k.wrap n)), []⟩
      | _ => none
    | some sty, some ty, .pv (.slice xs) => match sty.kind, ty.kind, numsOf xs with
      | .slice, .string, some ns => if sty.kKind = .int .u8 then some ⟨.pv (.str (strOf ns)), []⟩ else none
      | _, _, _ => none
    | some sty, some ty, .row id n => match ob id with
      | some (.row _ xs) => match sty.kind, ty.kind, numsOf xs with
        | .slice, .string, some ns => if sty.kKind = .int .u8 ∧ xs.length = n then some ⟨.pv (.str (strOf ns)), []⟩ else none
        | _, _, _ => none
      | _ => none
    | _, _, _ => none) := fun _ _ _ _ _ _ _ => rfl
theorem aopE14 : ∀ (env : Env) (dst : Option Nat) (ev : Operand → AVal) (ob : Nat → Option AObj), ∀ s x k, aop env dst ev ob (.fieldAddr s x k) = (match env.ty s with
    | some ty => match ty.kind, ty.fields[k]? with
      | .struct, some (fo, fs) => if 0 < fs then match ev x with
          | .ref id off => some ⟨.ref id (off + fo), []⟩
          | .pv (.ptr cs) => if fo + fs ≤ cs.length then some ⟨.pv (.ptr ((cs.drop fo).take fs)), []⟩ else none
          | .eref id i j sz => some ⟨.eref id i (j + fo) sz, []⟩
          | _ => none
        else none
      | _, _ => none
    | none => none) := fun _ _ _ _ _ _ _ => rfl
theorem aopE15 : ∀ (env : Env) (dst : Option Nat) (ev : Operand → AVal) (ob : Nat → Option AObj), ∀ t x ix, aop env dst ev ob (.indexAddr t x ix) = (match env.ty t, ev ix with
    | some ty, .pv (.int _ i) => if ty.eSize = 0 then none else match ty.kind, ev x with
      | .slice, .pv (.slice xs) => if 0 ≤ i ∧ i.toNat < xs.length ∧ (xs.getD i.toNat []).length = ty.eSize then some ⟨.pv (.ptr (xs.getD i.toNat [])), []⟩ else none
      | .slice, .row id n => match ob id with
        | some (.row sz _) => if 0 ≤ i ∧ i.toNat < n ∧ sz = ty.eSize then some ⟨.eref id i.toNat 0 sz, []⟩ else none
        | _ => none
      | .array n, .ref id off => if 0 ≤ i ∧ i.toNat < n then some ⟨.ref id (off + i.toNat * ty.eSize), []⟩ else none
      | .array n, .pv (.ptr cs) => if 0 ≤ i ∧ i.toNat < n ∧ i.toNat * ty.eSize < cs.length then some ⟨.pv (.ptr ((cs.drop (i.toNat * ty.eSize)).take ty.eSize)), []⟩ else none
      | _, _ => none
    | _, _ => none) := fun _ _ _ _ _ _ _ => rfl
theorem aopE16 : ∀ (env : Env) (dst : Option Nat) (ev : Operand → AVal) (ob : Nat → Option AObj), ∀ t x ix, aop env dst ev ob (.index t x ix) = (match env.ty t, ev ix with
    | some ty, .pv (.int _ i) => match ty.kind, ev x with
      | .string, .pv (.str s) => if 0 ≤ i ∧ i.toNat < s.length then some ⟨.pv (.int .u8 ((s.getD i.toNat 0).toNat : Int)), []⟩ else none
      | .array n, .agg cs => if 0 ≤ i ∧ i.toNat < n ∧ i.toNat < cs.length ∧ ty.kKind ≠ .other ∧ ty.eSize = 1 then some ⟨cs.getD i.toNat .junk, []⟩ else none
      | _, _ => none
    | _, _ => none) := fun _ _ _ _ _ _ _ => rfl
theorem aopE17 : ∀ (env : Env) (dst : Option Nat) (ev : Operand → AVal) (ob : Nat → Option AObj), ∀ x k, aop env dst ev ob (.extract x k) = (match ev x with
    | .tup vs => match vs[k]? with
      | some v => some ⟨v, []⟩
      | none => none
    | _ => none) := fun _ _ _ _ _ _ => rfl
theorem aopE18 : ∀ (env : Env) (dst : Option Nat) (ev : Operand → AVal) (ob : Nat → Option AObj), ∀ t x lo hi mx, aop env dst ev ob (.slice t x lo hi mx) = (match env.ty t, mx with
    | some ty, none =>
      match ty.kind, ev x with
      | .string, .pv (.str s) => match abound ev lo 0, abound ev hi s.length with
        | some l, some h => if 0 ≤ l ∧ l ≤ h ∧ h ≤ s.length then some ⟨.pv (.str ((s.take h.toNat).drop l.toNat)), []⟩ else none
        | _, _ => none
      | .slice, .pv (.slice xs) => match abound ev lo 0, abound ev hi xs.length with
        | some l, some h => if 0 ≤ l ∧ l ≤ h ∧ h ≤ xs.length ∧ (l = 0 ∨ (xs.getD 0 []).length = ty.eSize) ∧ 0 < ty.eSize then some ⟨.pv (.slice ((xs.take h.toNat).drop l.toNat)), []⟩ else none
        | _, _ => none
      | _, _ => none
    | _, _ => none) := fun _ _ _ _ _ _ _ _ _ => rfl
theorem aopE19 : ∀ (env : Env) (dst : Option Nat) (ev : Operand → AVal) (ob : Nat → Option AObj), ∀ f first cap, aop env dst ev ob (.makeFunc (.func f) first cap) = (if first.size = 0 then some ⟨.clo f (cap.toList.map ev), []⟩ else none) := fun _ _ _ _ _ _ _ => rfl
theorem aopE20 : ∀ (env : Env) (dst : Option Nat) (ev : Operand → AVal) (ob : Nat → Option AObj), ∀ t x, aop env dst ev ob (.makeInterface t x) = (match env.ty t with
    | some ty => if ty.kind = .iface then none else match ev x with
      | .agg cs => match toPs cs with
        | some ps => some ⟨.pv (.ifc t true ps), []⟩
        | none => none
      | .pv p => some ⟨.pv (.ifc t false [p]), []⟩
      | _ => none
    | none => none) := fun _ _ _ _ _ _ => rfl
theorem aopE21 : ∀ (env : Env) (dst : Option Nat) (ev : Operand → AVal) (ob : Nat → Option AObj), ∀ x z1 t ok, aop env dst ev ob (.typeAssert x z1 t ok) = (match env.ty t, ev x with
    | some ty, .pv (.ifc t' ag cs) => if ty.kind ≠ .iface ∧ t' = t ∧ ok = true then some ⟨.tup [if ag then .agg (cs.map .pv) else .pv (cs.getD 0 .nilptr), .pv (.bool true)], []⟩ else none
    | _, _ => none) := fun _ _ _ _ _ _ _ _ => rfl
theorem aopE22 : ∀ (env : Env) (dst : Option Nat) (ev : Operand → AVal) (ob : Nat → Option AObj), ∀ t, aop env dst ev ob (.makeMap t none) = (match env.ty t, dst with
    | some ty, some d => match ty.kind, ob (env.site d) with
      | .map, none => if env.site d < env.nobj ∧ ty.kKind ≠ .other then some ⟨.map (env.site d), [(env.site d, .map ty.kKind [])]⟩ else none
      | _, _ => none
    | _, _ => none) := fun _ _ _ _ _ => rfl
theorem aopE23 : ∀ (env : Env) (dst : Option Nat) (ev : Operand → AVal) (ob : Nat → Option AObj), ∀ t len cap, aop env dst ev ob (.makeSlice t len cap) = (match env.ty t, dst with
    | some ty, some d => match ty.kind, ev len, ev cap with
      | .slice, .pv (.int _ n), .pv (.int _ c) => match ty.eZV, ob (env.site d) with
        | some z, none => match toPs (mval z).cells with
          | some ps => if env.site d < env.nobj ∧ 0 ≤ n ∧ n = c ∧ n * ty.eBytes ≤ 140737488355328 ∧ 0 < ty.eBytes ∧ 0 < ty.eSize ∧ ps.length = ty.eSize then
              some ⟨.row (env.site d) n.toNat, [(env.site d, .row ty.eSize (List.replicate n.toNat ps))]⟩ else none
          | none => none
        | _, _ => none
      | _, _, _ => none
    | _, _ => none) := fun _ _ _ _ _ _ _ => rfl
theorem aopE24 : ∀ (env : Env) (dst : Option Nat) (ev : Operand → AVal) (ob : Nat → Option AObj), ∀ t x k ok, aop env dst ev ob (.lookup t x k ok) = (match env.ty t, ev x, ev k with
    | some ty, .map id, .pv key => match ty.kind, ob id, ty.eZV with
      | .map, some (.map kd es), some z => if kd = ty.kKind ∧ keyOk kd key = true then
          some ⟨if ok then .tup [mval ((mfind key es).getD z), .pv (.bool (mfind key es).isSome)] else mval ((mfind key es).getD z), []⟩ else none
      | _, _, _ => none
    | _, _, _ => none) := fun _ _ _ _ _ _ _ _ => rfl
theorem aopE25 : ∀ (env : Env) (dst : Option Nat) (ev : Operand → AVal) (ob : Nat → Option AObj), ∀ t m k x, aop env dst ev ob (.mapUpdate t m k x) = (match env.ty t, ev m, ev k, toMV (ev x) with
    | some ty, .map id, .pv key, some v => match ty.kind, ob id with
      | .map, some (.map kd es) => if kd = ty.kKind ∧ keyOk kd key = true then some ⟨.junk, [(id, .map kd (mset key v es))]⟩ else none
      | _, _ => none
    | _, _, _, _ => none) := fun _ _ _ _ _ _ _ _ => rfl
theorem aopE26 : ∀ (env : Env) (dst : Option Nat) (ev : Operand → AVal) (ob : Nat → Option AObj), ∀ args tys, aop env dst ev ob (.call ⟨.builtin .len, args, tys⟩) = (match args.toList, tys.toList with
    | [x], [t] => match env.ty t with
      | some ty => match ty.kind, ev x with
        | .string, .pv (.str s) => some ⟨.pv (.int .i64 s.length), []⟩
        | .slice, .pv (.slice xs) => some ⟨.pv (.int .i64 xs.length), []⟩
        | .slice, .snil => some ⟨.pv (.int .i64 0), []⟩
        | .slice, .row _ n => some ⟨.pv (.int .i64 n), []⟩
        | .array n, _ => some ⟨.pv (.int .i64 n), []⟩
        | _, _ => none
      | none => none
    | _, _ => none) := fun _ _ _ _ _ _ => rfl
theorem aopE27 : ∀ (env : Env) (dst : Option Nat) (ev : Operand → AVal) (ob : Nat → Option AObj), ∀ args z1, aop env dst ev ob (.call ⟨.builtin .max, args, z1⟩) = (match args.toList with
    | x :: r => match ev x with
      | .pv p => (afold amax p (r.map ev)).map fun q => ⟨.pv q, []⟩
      | _ => none
    | [] => none) := fun _ _ _ _ _ _ => rfl
theorem aopE28 : ∀ (env : Env) (dst : Option Nat) (ev : Operand → AVal) (ob : Nat → Option AObj), ∀ args z1, aop env dst ev ob (.call ⟨.builtin .min, args, z1⟩) = (match args.toList with
    | x :: r => match ev x with
      | .pv p => (afold amin p (r.map ev)).map fun q => ⟨.pv q, []⟩
      | _ => none
    | [] => none) := fun _ _ _ _ _ _ => rfl
theorem aopE29 : ∀ (env : Env) (dst : Option Nat) (ev : Operand → AVal) (ob : Nat → Option AObj), ∀ args tys, aop env dst ev ob (.call ⟨.builtin .append, args, tys⟩) = (match args.toList, tys.toList, dst with
    | [x, y], [t, t'], some d => match env.ty t, env.ty t', ob (env.site d) with
      | some ty, some ty', none => match ty.kind, srcKd ty'.kind, srcRows ob (ev y) with
        | .slice, true, some ys => match ev x with
          | .snil => if env.site d < env.nobj ∧ 0 < ty.eBytes ∧ 0 < ty.eSize ∧ roomOk (ys.length) ty.eBytes = true ∧ (ys.all fun y => y.length == ty.eSize) = true ∧ ty.eZero = true then
              some ⟨.row (env.site d) ys.length, [(env.site d, .row ty.eSize ys)]⟩ else none
          | .row id n => match ob id with
            | some (.row sz xs) => if env.site d < env.nobj ∧ env.site d ≠ id ∧ 0 < ty.eBytes ∧ xs.length = n ∧ sz = ty.eSize ∧ 0 < sz ∧ roomOk (xs.length + ys.length) ty.eBytes = true ∧ (ys.all fun y => y.length == sz) = true ∧ ty.eZero = true then
                some ⟨.row (env.site d) (n + ys.length), [(id, .dead), (env.site d, .row sz (xs ++ ys))]⟩ else none
            | _ => none
          | _ => none
        | _, _, _ => none
      | _, _, _ => none
    | _, _, _ => none) := fun _ _ _ _ _ _ => rfl
theorem atgE1 : ∀ (env : Env) (dst : Option Nat) (ev : Operand → AVal), ∀ z1, atgt env dst ev (.alloc z1) = (match dst with | some d => [env.site d] | none => []) := fun _ _ _ _ => rfl
theorem atgE2 : ∀ (env : Env) (dst : Option Nat) (ev : Operand → AVal), ∀ z1 z2, atgt env dst ev (.box z1 z2) = (match dst with | some d => [env.site d] | none => []) := fun _ _ _ _ _ => rfl
theorem atgE3 : ∀ (env : Env) (dst : Option Nat) (ev : Operand → AVal), ∀ z1 p, atgt env dst ev (.load z1 p) = (match ev p with | .ref id _ => [id] | .eref id _ _ _ => [id] | _ => []) := fun _ _ _ _ _ => rfl
theorem atgE4 : ∀ (env : Env) (dst : Option Nat) (ev : Operand → AVal), ∀ z1 p z2, atgt env dst ev (.store z1 p z2) = (match ev p with | .ref id _ => [id] | .eref id _ _ _ => [id] | _ => []) := fun _ _ _ _ _ _ => rfl
theorem atgE5 : ∀ (env : Env) (dst : Option Nat) (ev : Operand → AVal), ∀ z1 x z2, atgt env dst ev (.indexAddr z1 x z2) = (match ev x with | .row id _ => [id] | _ => []) := fun _ _ _ _ _ _ => rfl
theorem atgE6 : ∀ (env : Env) (dst : Option Nat) (ev : Operand → AVal), ∀ z1 z2 x, atgt env dst ev (.convert z1 z2 x) = (match ev x with | .row id _ => [id] | _ => []) := fun _ _ _ _ _ _ => rfl
theorem atgE7 : ∀ (env : Env) (dst : Option Nat) (ev : Operand → AVal), ∀ z1, atgt env dst ev (.makeMap z1 none) = (match dst with | some d => [env.site d] | none => []) := fun _ _ _ _ => rfl
theorem atgE8 : ∀ (env : Env) (dst : Option Nat) (ev : Operand → AVal), ∀ z1 z2 z3, atgt env dst ev (.makeSlice z1 z2 z3) = (match dst with | some d => [env.site d] | none => []) := fun _ _ _ _ _ _ => rfl
theorem atgE9 : ∀ (env : Env) (dst : Option Nat) (ev : Operand → AVal), ∀ z1 x z2 z3, atgt env dst ev (.lookup z1 x z2 z3) = (match ev x with | .map id => [id] | _ => []) := fun _ _ _ _ _ _ _ => rfl
theorem atgE10 : ∀ (env : Env) (dst : Option Nat) (ev : Operand → AVal), ∀ z1 m z2 z3, atgt env dst ev (.mapUpdate z1 m z2 z3) = (match ev m with | .map id => [id] | _ => []) := fun _ _ _ _ _ _ _ => rfl
theorem atgE11 : ∀ (env : Env) (dst : Option Nat) (ev : Operand → AVal), ∀ args z1, atgt env dst ev (.call ⟨.builtin .append, args, z1⟩) = (match args.toList with
    | [x, y] => (match dst with | some d => [env.site d] | none => []) ++ (match ev x with | .row id _ => [id] | _ => []) ++ (match ev y with | .row id _ => [id] | _ => [])
    | _ => []) := fun _ _ _ _ _ => rfl
theorem atgE12 : ∀ (env : Env) (dst : Option Nat) (ev : Operand → AVal), ∀ x, atgt env dst ev (.move x) = [] := fun _ _ _ _ => rfl
theorem atgE13 : ∀ (env : Env) (dst : Option Nat) (ev : Operand → AVal), ∀ x, atgt env dst ev (.assign x) = [] := fun _ _ _ _ => rfl
theorem atgE14 : ∀ (env : Env) (dst : Option Nat) (ev : Operand → AVal), ∀ c a b, atgt env dst ev (.pick c a b) = [] := fun _ _ _ _ _ _ => rfl
theorem atgE15 : ∀ (env : Env) (dst : Option Nat) (ev : Operand → AVal), ∀ t parts, atgt env dst ev (.build t parts) = [] := fun _ _ _ _ _ => rfl
theorem atgE16 : ∀ (env : Env) (dst : Option Nat) (ev : Operand → AVal), ∀ t len parts, atgt env dst ev (.buildSlice t len parts) = [] := fun _ _ _ _ _ _ => rfl
theorem atgE17 : ∀ (env : Env) (dst : Option Nat) (ev : Operand → AVal), ∀ x, atgt env dst ev (.nilCheck x) = [] := fun _ _ _ _ => rfl
theorem atgE18 : ∀ (env : Env) (dst : Option Nat) (ev : Operand → AVal), ∀ op t x y z1, atgt env dst ev (.binOp op t x y z1) = [] := fun _ _ _ _ _ _ _ _ => rfl
theorem atgE19 : ∀ (env : Env) (dst : Option Nat) (ev : Operand → AVal), ∀ op z1 x, atgt env dst ev (.unOp op z1 x) = [] := fun _ _ _ _ _ _ => rfl
theorem atgE20 : ∀ (env : Env) (dst : Option Nat) (ev : Operand → AVal), ∀ s x k, atgt env dst ev (.fieldAddr s x k) = [] := fun _ _ _ _ _ _ => rfl
theorem atgE21 : ∀ (env : Env) (dst : Option Nat) (ev : Operand → AVal), ∀ t x ix, atgt env dst ev (.index t x ix) = [] := fun _ _ _ _ _ _ => rfl
theorem atgE22 : ∀ (env : Env) (dst : Option Nat) (ev : Operand → AVal), ∀ x k, atgt env dst ev (.extract x k) = [] := fun _ _ _ _ _ => rfl
theorem atgE23 : ∀ (env : Env) (dst : Option Nat) (ev : Operand → AVal), ∀ t x lo hi mx, atgt env dst ev (.slice t x lo hi mx) = [] := fun _ _ _ _ _ _ _ _ => rfl
theorem atgE24 : ∀ (env : Env) (dst : Option Nat) (ev : Operand → AVal), ∀ f first cap, atgt env dst ev (.makeFunc (.func f) first cap) = [] := fun _ _ _ _ _ _ => rfl
theorem atgE25 : ∀ (env : Env) (dst : Option Nat) (ev : Operand → AVal), ∀ t x, atgt env dst ev (.makeInterface t x) = [] := fun _ _ _ _ _ => rfl
theorem atgE26 : ∀ (env : Env) (dst : Option Nat) (ev : Operand → AVal), ∀ x z1 t ok, atgt env dst ev (.typeAssert x z1 t ok) = [] := fun _ _ _ _ _ _ _ => rfl
theorem atgE27 : ∀ (env : Env) (dst : Option Nat) (ev : Operand → AVal), ∀ args tys, atgt env dst ev (.call ⟨.builtin .len, args, tys⟩) = [] := fun _ _ _ _ _ => rfl
theorem atgE28 : ∀ (env : Env) (dst : Option Nat) (ev : Operand → AVal), ∀ args z1, atgt env dst ev (.call ⟨.builtin .max, args, z1⟩) = [] := fun _ _ _ _ _ => rfl
theorem atgE29 : ∀ (env : Env) (dst : Option Nat) (ev : Operand → AVal), ∀ args z1, atgt env dst ev (.call ⟨.builtin .min, args, z1⟩) = [] := fun _ _ _ _ _ => rfl
theorem vgE1 : ∀ (K : KT) (tg : Tg K) (gp : Prop) (dd : Option Nat), ∀ x, ∀ (rest : List COp) (acc : Option Tr) (σ : St), VG P env K tg (some gp) dd (.move x) rest acc σ = VX P env K tg gp (aop env dd (aeval env σ) σ.obj (.move x)) (atgt env dd (aeval env σ) (.move x)) dd rest acc σ := fun _ _ _ _ _ _ _ _ => VG_op _ _ _ _ _ ⟨rfl, rfl⟩ _ _ _
theorem vgE2 : ∀ (K : KT) (tg : Tg K) (gp : Prop) (dd : Option Nat), ∀ x, ∀ (rest : List COp) (acc : Option Tr) (σ : St), VG P env K tg (some gp) dd (.assign x) rest acc σ = VX P env K tg gp (aop env dd (aeval env σ) σ.obj (.assign x)) (atgt env dd (aeval env σ) (.assign x)) dd rest acc σ := fun _ _ _ _ _ _ _ _ => VG_op _ _ _ _ _ ⟨rfl, rfl⟩ _ _ _
theorem vgE3 : ∀ (K : KT) (tg : Tg K) (gp : Prop) (dd : Option Nat), ∀ c a b, ∀ (rest : List COp) (acc : Option Tr) (σ : St), VG P env K tg (some gp) dd (.pick c a b) rest acc σ = VX P env K tg gp (aop env dd (aeval env σ) σ.obj (.pick c a b)) (atgt env dd (aeval env σ) (.pick c a b)) dd rest acc σ := fun _ _ _ _ _ _ _ _ _ _ => VG_op _ _ _ _ _ ⟨rfl, rfl⟩ _ _ _
theorem vgE4 : ∀ (K : KT) (tg : Tg K) (gp : Prop) (dd : Option Nat), ∀ t, ∀ (rest : List COp) (acc : Option Tr) (σ : St), VG P env K tg (some gp) dd (.alloc t) rest acc σ = VX P env K tg gp (aop env dd (aeval env σ) σ.obj (.alloc t)) (atgt env dd (aeval env σ) (.alloc t)) dd rest acc σ := fun _ _ _ _ _ _ _ _ => VG_op _ _ _ _ _ ⟨rfl, rfl⟩ _ _ _
theorem vgE5 : ∀ (K : KT) (tg : Tg K) (gp : Prop) (dd : Option Nat), ∀ z1 x, ∀ (rest : List COp) (acc : Option Tr) (σ : St), VG P env K tg (some gp) dd (.box z1 x) rest acc σ = VX P env K tg gp (aop env dd (aeval env σ) σ.obj (.box z1 x)) (atgt env dd (aeval env σ) (.box z1 x)) dd rest acc σ := fun _ _ _ _ _ _ _ _ _ => VG_op _ _ _ _ _ ⟨rfl, rfl⟩ _ _ _
theorem vgE6 : ∀ (K : KT) (tg : Tg K) (gp : Prop) (dd : Option Nat), ∀ t parts, ∀ (rest : List COp) (acc : Option Tr) (σ : St), VG P env K tg (some gp) dd (.build t parts) rest acc σ = VX P env K tg gp (aop env dd (aeval env σ) σ.obj (.build t parts)) (atgt env dd (aeval env σ) (.build t parts)) dd rest acc σ := fun _ _ _ _ _ _ _ _ _ => VG_op _ _ _ _ _ ⟨rfl, rfl⟩ _ _ _
theorem vgE7 : ∀ (K : KT) (tg : Tg K) (gp : Prop) (dd : Option Nat), ∀ t len parts, ∀ (rest : List COp) (acc : Option Tr) (σ : St), VG P env K tg (some gp) dd (.buildSlice t len parts) rest acc σ = VX P env K tg gp (aop env dd (aeval env σ) σ.obj (.buildSlice t len parts)) (atgt env dd (aeval env σ) (.buildSlice t len parts)) dd rest acc σ := fun _ _ _ _ _ _ _ _ _ _ => VG_op _ _ _ _ _ ⟨rfl, rfl⟩ _ _ _
theorem vgE8 : ∀ (K : KT) (tg : Tg K) (gp : Prop) (dd : Option Nat), ∀ t p, ∀ (rest : List COp) (acc : Option Tr) (σ : St), VG P env K tg (some gp) dd (.load t p) rest acc σ = VX P env K tg gp (aop env dd (aeval env σ) σ.obj (.load t p)) (atgt env dd (aeval env σ) (.load t p)) dd rest acc σ := fun _ _ _ _ _ _ _ _ _ => VG_op _ _ _ _ _ ⟨rfl, rfl⟩ _ _ _
theorem vgE9 : ∀ (K : KT) (tg : Tg K) (gp : Prop) (dd : Option Nat), ∀ t p x, ∀ (rest : List COp) (acc : Option Tr) (σ : St), VG P env K tg (some gp) dd (.store t p x) rest acc σ = VX P env K tg gp (aop env dd (aeval env σ) σ.obj (.store t p x)) (atgt env dd (aeval env σ) (.store t p x)) dd rest acc σ := fun _ _ _ _ _ _ _ _ _ _ => VG_op _ _ _ _ _ ⟨rfl, rfl⟩ _ _ _
theorem vgE10 : ∀ (K : KT) (tg : Tg K) (gp : Prop) (dd : Option Nat), ∀ x, ∀ (rest : List COp) (acc : Option Tr) (σ : St), VG P env K tg (some gp) dd (.nilCheck x) rest acc σ = VX P env K tg gp (aop env dd (aeval env σ) σ.obj (.nilCheck x)) (atgt env dd (aeval env σ) (.nilCheck x)) dd rest acc σ := fun _ _ _ _ _ _ _ _ => VG_op _ _ _ _ _ ⟨rfl, rfl⟩ _ _ _
theorem vgE11 : ∀ (K : KT) (tg : Tg K) (gp : Prop) (dd : Option Nat), ∀ op t x y z1, ∀ (rest : List COp) (acc : Option Tr) (σ : St), VG P env K tg (some gp) dd (.binOp op t x y z1) rest acc σ = VX P env K tg gp (aop env dd (aeval env σ) σ.obj (.binOp op t x y z1)) (atgt env dd (aeval env σ) (.binOp op t x y z1)) dd rest acc σ := fun _ _ _ _ _ _ _ _ _ _ _ _ => VG_op _ _ _ _ _ ⟨rfl, rfl⟩ _ _ _
theorem vgE12 : ∀ (K : KT) (tg : Tg K) (gp : Prop) (dd : Option Nat), ∀ op z1 x, ∀ (rest : List COp) (acc : Option Tr) (σ : St), VG P env K tg (some gp) dd (.unOp op z1 x) rest acc σ = VX P env K tg gp (aop env dd (aeval env σ) σ.obj (.unOp op z1 x)) (atgt env dd (aeval env σ) (.unOp op z1 x)) dd rest acc σ := fun _ _ _ _ _ _ _ _ _ _ => VG_op _ _ _ _ _ ⟨rfl, rfl⟩ _ _ _
theorem vgE13 : ∀ (K : KT) (tg : Tg K) (gp : Prop) (dd : Option Nat), ∀ st dt x, ∀ (rest : List COp) (acc : Option Tr) (σ : St), VG P env K tg (some gp) dd (.convert st dt x) rest acc σ = VX P env K tg gp (aop env dd (aeval env σ) σ.obj (.convert st dt x)) (atgt env dd (aeval env σ) (.convert st dt x)) dd rest acc σ := fun _ _ _ _ _ _ _ _ _ _ => VG_op _ _ _ _ _ ⟨rfl, rfl⟩ _ _ _
theorem vgE14 : ∀ (K : KT) (tg : Tg K) (gp : Prop) (dd : Option Nat), ∀ s x k, ∀ (rest : List COp) (acc : Option Tr) (σ : St), VG P env K tg (some gp) dd (.fieldAddr s x k) rest acc σ = VX P env K tg gp (aop env dd (aeval env σ) σ.obj (.fieldAddr s x k)) (atgt env dd (aeval env σ) (.fieldAddr s x k)) dd rest acc σ := fun _ _ _ _ _ _ _ _ _ _ => VG_op _ _ _ _ _ ⟨rfl, rfl⟩ _ _ _
theorem vgE15 : ∀ (K : KT) (tg : Tg K) (gp : Prop) (dd : Option Nat), ∀ t x ix, ∀ (rest : List COp) (acc : Option Tr) (σ : St), VG P env K tg (some gp) dd (.indexAddr t x ix) rest acc σ = VX P env K tg gp (aop env dd (aeval env σ) σ.obj (.indexAddr t x ix)) (atgt env dd (aeval env σ) (.indexAddr t x ix)) dd rest acc σ := fun _ _ _ _ _ _ _ _ _ _ => VG_op _ _ _ _ _ ⟨rfl, rfl⟩ _ _ _
theorem vgE16 : ∀ (K : KT) (tg : Tg K) (gp : Prop) (dd : Option Nat), ∀ t x ix, ∀ (rest : List COp) (acc : Option Tr) (σ : St), VG P env K tg (some gp) dd (.index t x ix) rest acc σ = VX P env K tg gp (aop env dd (aeval env σ) σ.obj (.index t x ix)) (atgt env dd (aeval env σ) (.index t x ix)) dd rest acc σ := fun _ _ _ _ _ _ _ _ _ _ => VG_op _ _ _ _ _ ⟨rfl, rfl⟩ _ _ _
theorem vgE17 : ∀ (K : KT) (tg : Tg K) (gp : Prop) (dd : Option Nat), ∀ x k, ∀ (rest : List COp) (acc : Option Tr) (σ : St), VG P env K tg (some gp) dd (.extract x k) rest acc σ = VX P env K tg gp (aop env dd (aeval env σ) σ.obj (.extract x k)) (atgt env dd (aeval env σ) (.extract x k)) dd rest acc σ := fun _ _ _ _ _ _ _ _ _ => VG_op _ _ _ _ _ ⟨rfl, rfl⟩ _ _ _
theorem vgE18 : ∀ (K : KT) (tg : Tg K) (gp : Prop) (dd : Option Nat), ∀ t x lo hi mx, ∀ (rest : List COp) (acc : Option Tr) (σ : St), VG P env K tg (some gp) dd (.slice t x lo hi mx) rest acc σ = VX P env K tg gp (aop env dd (aeval env σ) σ.obj (.slice t x lo hi mx)) (atgt env dd (aeval env σ) (.slice t x lo hi mx)) dd rest acc σ := fun _ _ _ _ _ _ _ _ _ _ _ _ => VG_op _ _ _ _ _ ⟨rfl, rfl⟩ _ _ _
theorem vgE19 : ∀ (K : KT) (tg : Tg K) (gp : Prop) (dd : Option Nat), ∀ f first cap, ∀ (rest : List COp) (acc : Option Tr) (σ : St), VG P env K tg (some gp) dd (.makeFunc (.func f) first cap) rest acc σ = VX P env K tg gp (aop env dd (aeval env σ) σ.obj (.makeFunc (.func f) first cap)) (atgt env dd (aeval env σ) (.makeFunc (.func f) first cap)) dd rest acc σ := fun _ _ _ _ _ _ _ _ _ _ => VG_op _ _ _ _ _ ⟨rfl, rfl⟩ _ _ _
theorem vgE20 : ∀ (K : KT) (tg : Tg K) (gp : Prop) (dd : Option Nat), ∀ t x, ∀ (rest : List COp) (acc : Option Tr) (σ : St), VG P env K tg (some gp) dd (.makeInterface t x) rest acc σ = VX P env K tg gp (aop env dd (aeval env σ) σ.obj (.makeInterface t x)) (atgt env dd (aeval env σ) (.makeInterface t x)) dd rest acc σ := fun _ _ _ _ _ _ _ _ _ => VG_op _ _ _ _ _ ⟨rfl, rfl⟩ _ _ _
theorem vgE21 : ∀ (K : KT) (tg : Tg K) (gp : Prop) (dd : Option Nat), ∀ x z1 t ok, ∀ (rest : List COp) (acc : Option Tr) (σ : St), VG P env K tg (some gp) dd (.typeAssert x z1 t ok) rest acc σ = VX P env K tg gp (aop env dd (aeval env σ) σ.obj (.typeAssert x z1 t ok)) (atgt env dd (aeval env σ) (.typeAssert x z1 t ok)) dd rest acc σ := fun _ _ _ _ _ _ _ _ _ _ _ => VG_op _ _ _ _ _ ⟨rfl, rfl⟩ _ _ _
theorem vgE22 : ∀ (K : KT) (tg : Tg K) (gp : Prop) (dd : Option Nat), ∀ t, ∀ (rest : List COp) (acc : Option Tr) (σ : St), VG P env K tg (some gp) dd (.makeMap t none) rest acc σ = VX P env K tg gp (aop env dd (aeval env σ) σ.obj (.makeMap t none)) (atgt env dd (aeval env σ) (.makeMap t none)) dd rest acc σ := fun _ _ _ _ _ _ _ _ => VG_op _ _ _ _ _ ⟨rfl, rfl⟩ _ _ _
theorem vgE23 : ∀ (K : KT) (tg : Tg K) (gp : Prop) (dd : Option Nat), ∀ t len cap, ∀ (rest : List COp) (acc : Option Tr) (σ : St), VG P env K tg (some gp) dd (.makeSlice t len cap) rest acc σ = VX P env K tg gp (aop env dd (aeval env σ) σ.obj (.makeSlice t len cap)) (atgt env dd (aeval env σ) (.makeSlice t len cap)) dd rest acc σ := fun _ _ _ _ _ _ _ _ _ _ => VG_op _ _ _ _ _ ⟨rfl, rfl⟩ _ _ _
theorem vgE24 : ∀ (K : KT) (tg : Tg K) (gp : Prop) (dd : Option Nat), ∀ t x k ok, ∀ (rest : List COp) (acc : Option Tr) (σ : St), VG P env K tg (some gp) dd (.lookup t x k ok) rest acc σ = VX P env K tg gp (aop env dd (aeval env σ) σ.obj (.lookup t x k ok)) (atgt env dd (aeval env σ) (.lookup t x k ok)) dd rest acc σ := fun _ _ _ _ _ _ _ _ _ _ _ => VG_op _ _ _ _ _ ⟨rfl, rfl⟩ _ _ _
theorem vgE25 : ∀ (K : KT) (tg : Tg K) (gp : Prop) (dd : Option Nat), ∀ t m k x, ∀ (rest : List COp) (acc : Option Tr) (σ : St), VG P env K tg (some gp) dd (.mapUpdate t m k x) rest acc σ = VX P env K tg gp (aop env dd (aeval env σ) σ.obj (.mapUpdate t m k x)) (atgt env dd (aeval env σ) (.mapUpdate t m k x)) dd rest acc σ := fun _ _ _ _ _ _ _ _ _ _ _ => VG_op _ _ _ _ _ ⟨rfl, rfl⟩ _ _ _
theorem vgE26 : ∀ (K : KT) (tg : Tg K) (gp : Prop) (dd : Option Nat), ∀ args tys, ∀ (rest : List COp) (acc : Option Tr) (σ : St), VG P env K tg (some gp) dd (.call ⟨.builtin .len, args, tys⟩) rest acc σ = VX P env K tg gp (aop env dd (aeval env σ) σ.obj (.call ⟨.builtin .len, args, tys⟩)) (atgt env dd (aeval env σ) (.call ⟨.builtin .len, args, tys⟩)) dd rest acc σ := fun _ _ _ _ _ _ _ _ _ => VG_op _ _ _ _ _ ⟨rfl, rfl⟩ _ _ _
theorem vgE27 : ∀ (K : KT) (tg : Tg K) (gp : Prop) (dd : Option Nat), ∀ args z1, ∀ (rest : List COp) (acc : Option Tr) (σ : St), VG P env K tg (some gp) dd (.call ⟨.builtin .max, args, z1⟩) rest acc σ = VX P env K tg gp (aop env dd (aeval env σ) σ.obj (.call ⟨.builtin .max, args, z1⟩)) (atgt env dd (aeval env σ) (.call ⟨.builtin .max, args, z1⟩)) dd rest acc σ := fun _ _ _ _ _ _ _ _ _ => VG_op _ _ _ _ _ ⟨rfl, rfl⟩ _ _ _
theorem vgE28 : ∀ (K : KT) (tg : Tg K) (gp : Prop) (dd : Option Nat), ∀ args z1, ∀ (rest : List COp) (acc : Option Tr) (σ : St), VG P env K tg (some gp) dd (.call ⟨.builtin .min, args, z1⟩) rest acc σ = VX P env K tg gp (aop env dd (aeval env σ) σ.obj (.call ⟨.builtin .min, args, z1⟩)) (atgt env dd (aeval env σ) (.call ⟨.builtin .min, args, z1⟩)) dd rest acc σ := fun _ _ _ _ _ _ _ _ _ => VG_op _ _ _ _ _ ⟨rfl, rfl⟩ _ _ _
theorem vgE29 : ∀ (K : KT) (tg : Tg K) (gp : Prop) (dd : Option Nat), ∀ args tys, ∀ (rest : List COp) (acc : Option Tr) (σ : St), VG P env K tg (some gp) dd (.call ⟨.builtin .append, args, tys⟩) rest acc σ = VX P env K tg gp (aop env dd (aeval env σ) σ.obj (.call ⟨.builtin .append, args, tys⟩)) (atgt env dd (aeval env σ) (.call ⟨.builtin .append, args, tys⟩)) dd rest acc σ := fun _ _ _ _ _ _ _ _ _ => VG_op _ _ _ _ _ ⟨rfl, rfl⟩ _ _ _
theorem panV_one : ∀ (t : Nat) (k : IntKind) (n : Int), panV (.pv (.ifc t true [.int k n])) = some (.iface t (.agg #[.int k n])) := fun _ _ _ => rfl
theorem panV_nil : ∀ (t : Nat), panV (.pv (.ifc t true [])) = some (.iface t (.agg #[])) := fun _ => rfl
theorem cells_clo : ∀ (f : Nat) (cs : List AVal), AVal.cells (.clo f cs) = [.clo f cs] := fun _ _ => rfl
theorem isC_clo : ∀ (f : Nat) (cs : List AVal), AVal.isCell (.clo f cs) = true := fun _ _ => rfl
theorem anil_ie : ∀ (t : Nat) (ag : Bool) (cs : List PVal), anil .eql (some .iface) (.ifc t ag cs) = some (.bool false) := fun _ _ _ => rfl
theorem anil_in : ∀ (t : Nat) (ag : Bool) (cs : List PVal), anil .neq (some .iface) (.ifc t ag cs) = some (.bool true) := fun _ _ _ => rfl
theorem aeval_tmp : ∀ (sl : List AVal) (ob : List (Option AObj)) (i : Nat), aeval env ⟨sl, ob⟩ (.tmp i) = sl.getD i .junk := fun _ _ _ => rfl
theorem aeval_int : ∀ (k : IntKind) (n : Int), aeval env σ (.const (.int k n)) = .pv (.int k n) := fun _ _ => rfl
theorem aeval_bool : ∀ (b : Bool), aeval env σ (.const (.bool b)) = .pv (.bool b) := fun _ => rfl
theorem aeval_str : ∀ (l : List UInt8), aeval env σ (.const (.string ⟨l.toArray⟩)) = .pv (.str l) := fun _ => rfl
theorem aeval_snil : aeval env σ (.const (.slice none 0 0)) = .snil := rfl
theorem aeval_nptr : aeval env σ (.const (.pointer none)) = .pv .nilptr := rfl
theorem aeval_nmap : aeval env σ (.const (.map none)) = .pv .nilmap := rfl
theorem aeval_agg : ∀ (l : List Value), aeval env σ (.const (.agg l.toArray)) = .agg (l.map absCell) := fun _ => rfl
theorem absC_int : ∀ (k : IntKind) (n : Int), absCell (.int k n) = .pv (.int k n) := fun _ _ => rfl
theorem absC_bool : ∀ (b : Bool), absCell (.bool b) = .pv (.bool b) := fun _ => rfl
theorem absC_str : ∀ (l : List UInt8), absCell (.string ⟨l.toArray⟩) = .pv (.str l) := fun _ => rfl
theorem absC_snil : absCell (.slice none 0 0) = .snil := rfl
theorem absC_nptr : absCell (.pointer none) = .pv .nilptr := rfl
theorem absC_nmap : absCell (.map none) = .pv .nilmap := rfl
theorem aeval_glob : ∀ (b : Nat), aeval env σ (.global b) = (match env.gl b with | some cs => .pv (.ptr cs) | none => .junk) := fun _ => rfl
theorem obj_lit : ∀ (sl : List AVal) (ob : List (Option AObj)) (i : Nat), St.obj ⟨sl, ob⟩ i = ob.getD i none := fun _ _ _ => rfl
theorem slot_lit : ∀ (sl : List AVal) (ob : List (Option AObj)) (i : Nat), St.slot ⟨sl, ob⟩ i = sl.getD i .junk := fun _ _ _ => rfl
theorem app_none : ∀ (σ : St) (d : Nat) (v : AVal), σ.app (some d) ⟨v, []⟩ = ⟨σ.slots.set d v, σ.objs⟩ := fun _ _ _ => rfl
theorem app_nn : ∀ (σ : St) (v : AVal), σ.app none ⟨v, []⟩ = ⟨σ.slots, σ.objs⟩ := fun _ _ => rfl
theorem app_upd : ∀ (σ : St) (d : Nat) (v : AVal) (q : Nat × AObj) (r : List (Nat × AObj)), σ.app (some d) ⟨v, q :: r⟩ = (⟨σ.slots, σ.objs.set q.1 (some q.2)⟩ : St).app (some d) ⟨v, r⟩ := fun _ _ _ _ _ => rfl
theorem app_updn : ∀ (σ : St) (v : AVal) (q : Nat × AObj) (r : List (Nat × AObj)), σ.app none ⟨v, q :: r⟩ = (⟨σ.slots, σ.objs.set q.1 (some q.2)⟩ : St).app none ⟨v, r⟩ := fun _ _ _ _ => rfl
theorem gd_none : gd σ none = some True := rfl
theorem gd_some : ∀ (i : Nat) (w : Bool), gd σ (some (some (i, w))) = gw (σ.slot i) w := fun _ _ => rfl
theorem cells_agg : ∀ (cs : List AVal), AVal.cells (.agg cs) = cs := fun _ => rfl
theorem cells_pv : ∀ (p : PVal), AVal.cells (.pv p) = [.pv p] := fun _ => rfl
theorem cells_snil : AVal.cells .snil = [.snil] := rfl
theorem cells_ref : ∀ (i o : Nat), AVal.cells (.ref i o) = [.ref i o] := fun _ _ => rfl
theorem cells_row : ∀ (i o : Nat), AVal.cells (.row i o) = [.row i o] := fun _ _ => rfl
theorem cells_map : ∀ (i : Nat), AVal.cells (.map i) = [.map i] := fun _ => rfl
theorem isC_pv : ∀ (p : PVal), AVal.isCell (.pv p) = true := fun _ => rfl
theorem isC_snil : AVal.isCell .snil = true := rfl
theorem isC_ref : ∀ (i o : Nat), AVal.isCell (.ref i o) = true := fun _ _ => rfl
theorem isC_row : ∀ (i o : Nat), AVal.isCell (.row i o) = true := fun _ _ => rfl
theorem isC_map : ∀ (i : Nat), AVal.isCell (.map i) = true := fun _ => rfl
theorem toPs_nil : toPs [] = some [] := rfl
theorem toPs_pv : ∀ (p : PVal) (r : List AVal), toPs (.pv p :: r) = (toPs r).map (p :: ·) := fun p r => by simp only [toPs, AVal.toP]; cases toPs r <;> rfl
theorem toPs_snil : ∀ (r : List AVal), toPs (.snil :: r) = (toPs r).map (.slice [] :: ·) := fun r => by simp only [toPs, AVal.toP]; cases toPs r <;> rfl
theorem arows_nil : ∀ (sz k : Nat), arows sz k [] = some [] := fun _ _ => rfl
theorem arows_cons : ∀ (sz k i : Nat) (v : AVal) (r : List (Nat × AVal)), arows sz k ((i, v) :: r) = (if i = k ∧ v.cells.length = sz then (match toPs v.cells, arows sz (k + 1) r with | some ps, some r => some (ps :: r) | _, _ => none) else none) := fun _ _ _ _ _ => rfl
theorem afill_nil : ∀ (pl : Nat → Option (Nat × Nat)) (cs : List AVal), afill pl cs [] = some cs := fun _ _ => rfl
theorem afill_cons : ∀ (pl : Nat → Option (Nat × Nat)) (cs : List AVal) (i : Nat) (v : AVal) (r : List (Nat × AVal)), afill pl cs ((i, v) :: r) = (match pl i with | none => none | some (off, size) => if v.cells.length = size ∧ off + size ≤ cs.length ∧ v.cells.all AVal.isCell = true then afill pl (splice cs off v.cells) r else none) := fun _ _ _ _ _ => rfl
theorem splice_e : ∀ (cs : List AVal) (off : Nat) (v : List AVal), splice cs off v = cs.take off ++ v ++ cs.drop (off + v.length) := fun _ _ _ => rfl
theorem src_snil : ∀ (ob : Nat → Option AObj), srcRows ob .snil = some [] := fun _ => rfl
theorem src_pv : ∀ (ob : Nat → Option AObj) (xs : List (List PVal)), srcRows ob (.pv (.slice xs)) = some xs := fun _ _ => rfl
theorem src_str : ∀ (ob : Nat → Option AObj) (s : List UInt8), srcRows ob (.pv (.str s)) = some (s.map bRow) := fun _ _ => rfl
theorem srcKd_1 : srcKd .slice = true := rfl
theorem srcKd_2 : srcKd .string = true := rfl
theorem all_bRow : ∀ (s : List UInt8), ((s.map bRow).all fun y => y.length == 1) = true := fun s => by simp [bRow]
theorem nums_bRow : ∀ (s : List UInt8), numsOf (s.map bRow) = some (s.map fun c => (c.toNat : Int)) := fun s => by induction s with | nil => rfl | cons c r ih => simp only [List.map_cons, bRow, numsOf] at *; rw [ih]; rfl
theorem strOf_map : ∀ (s : List UInt8), strOf (s.map fun c => (c.toNat : Int)) = s := fun s => by induction s with | nil => rfl | cons c r ih => simp only [strOf, List.map_cons] at *; rw [ih]; simp
theorem src_row : ∀ (ob : Nat → Option AObj) (id n : Nat), srcRows ob (.row id n) = (match ob id with | some (.row _ xs) => if xs.length = n then some xs else none | _ => none) := fun _ _ _ => rfl
theorem bnd_none : ∀ (ev : Operand → AVal) (n : Nat), abound ev none n = some (n : Int) := fun _ _ => rfl
theorem bnd_some : ∀ (ev : Operand → AVal) (q : Operand) (n : Nat), abound ev (some q) n = (match ev q with | .pv (.int _ i) => some i | _ => none) := fun _ _ _ => rfl
theorem fold_nil : ∀ (f : PVal → PVal → Option PVal) (p : PVal), afold f p [] = some p := fun _ _ => rfl
theorem fold_cons : ∀ (f : PVal → PVal → Option PVal) (p q : PVal) (r : List AVal), afold f p (.pv q :: r) = (match f p q with | some x => afold f x r | none => none) := fun _ _ _ _ => rfl
theorem amax_e : ∀ (k k2 : IntKind) (x y : Int), amax (.int k x) (.int k2 y) = some (.int k (imax x y)) := fun _ _ _ _ => rfl
theorem amin_e : ∀ (k k2 : IntKind) (x y : Int), amin (.int k x) (.int k2 y) = some (.int k (imin x y)) := fun _ _ _ _ => rfl
theorem comp_nil : ∀ (l : List Oper), compL l [] = [] := fun _ => rfl
theorem comp_cons : ∀ (l : List Oper) (d : Option Nat) (op : Op) (ty : TypeId) (ps : String) (af : Array Edge) (g : Option (Nat × Bool)) (r : List Oper), compL l (⟨d, op, ty, ps, af, g⟩ :: r) = ⟨d, op, gres l g⟩ :: compL l r := fun _ _ _ _ _ _ _ _ => rfl
theorem gres_none : ∀ (l : List Oper), gres l none = none := fun _ => rfl
theorem gres_some : ∀ (l : List Oper) (j : Nat) (w : Bool), gres l (some (j, w)) = some (((l[j]?).bind (·.dst)).map fun t => (t, w)) := fun _ _ _ => rfl
theorem ares_nil : ares env σ [] = some [] := rfl
theorem ares_tmp : ∀ (i : Nat) (r : List ResultVar), ares env σ (.tmp i :: r) = (ares env σ r).map (σ.slot i :: ·) := fun i r => by simp only [ares, aresOne]; cases ares env σ r <;> rfl
theorem ares_cell : ∀ (i t : Nat) (r : List ResultVar), ares env σ (.cell i t :: r) = (match aresOne env σ (.cell i t), ares env σ r with | some v, some vs => some (v :: vs) | _, _ => none) := fun _ _ _ => rfl
theorem aresO_cell : ∀ (i t : Nat), aresOne env σ (.cell i t) = (match env.ty t, σ.slot i with | some ty, .ref id off => (match σ.obj id with | some (.cells cs) => if off + ty.size ≤ cs.length ∧ 0 < ty.size then some (if ty.agg then .agg ((cs.drop off).take ty.size) else cs.getD off .junk) else none | _ => none) | _, _ => none) := fun _ _ => rfl
theorem pack_one : ∀ (v : AVal), pack [v] = v := fun _ => rfl
theorem pack_nil : pack [] = .tup [] := rfl
theorem pack_two : ∀ (a b : AVal) (r : List AVal), pack (a :: b :: r) = .tup (a :: b :: r) := fun _ _ _ => rfl
theorem toMV_agg : ∀ (cs : List AVal), toMV (.agg cs) = (toPs cs).map fun ps => (true, ps) := fun _ => rfl
theorem nilC_tmp : ∀ (i : Nat), isNilC (.tmp i) = false := fun _ => rfl
theorem nilC_int : ∀ (k : IntKind) (n : Int), isNilC (.const (.int k n)) = false := fun _ _ => rfl
theorem nilC_bool : ∀ (b : Bool), isNilC (.const (.bool b)) = false := fun _ => rfl
theorem nilC_str : ∀ (s : ByteArray), isNilC (.const (.string s)) = false := fun _ => rfl
theorem nilC_nil : isNilC (.const .nilIface) = true := rfl
theorem anil_eq : ∀ (b : Bool), anil .eql (some .iface) (.err b) = some (.bool b) := fun _ => rfl
theorem anil_ne : ∀ (b : Bool), anil .neq (some .iface) (.err b) = some (.bool (!b)) := fun _ => rfl
theorem aeval_nili : aeval env σ (.const .nilIface) = .pv (.err true) := rfl
theorem absC_nili : absCell .nilIface = .pv (.err true) := rfl
theorem nums_nil : numsOf [] = some [] := rfl
theorem nums_cons : ∀ (n : Int) (r : List (List PVal)), numsOf ([.int .u8 n] :: r) = (numsOf r).map (n :: ·) := fun _ _ => rfl
theorem mval_t : ∀ (l : List PVal), mval (true, l) = .agg (l.map .pv) := fun _ => rfl
theorem mval_f : ∀ (l : List PVal), mval (false, l) = .pv (l.getD 0 .nilptr) := fun _ => rfl
theorem toMV_pv : ∀ (p : PVal), toMV (.pv p) = some (false, [p]) := fun _ => rfl
theorem aeqE_nil : aeqL [] [] [] = some true := rfl
theorem aeqE_cons : ∀ (k : Kd) (ks : List Kd) (c d : AVal) (cs ds : List AVal), aeqL (k :: ks) (c :: cs) (d :: ds) = (match aeqC k c d, aeqL ks cs ds with | some a, some b => some (a && b) | _, _ => none) := fun _ _ _ _ _ _ => rfl
theorem aeqE_int : ∀ (k : IntKind) (a b : Int), aeqC (.int k) (.pv (.int k a)) (.pv (.int k b)) = some (a == b) := fun _ _ _ => by simp [aeqC]
theorem aeqE_bool : ∀ (a b : Bool), aeqC .bool (.pv (.bool a)) (.pv (.bool b)) = some (a == b) := fun _ _ => rfl
theorem aeqE_str : ∀ (a b : List UInt8), aeqC .string (.pv (.str a)) (.pv (.str b)) = some (a == b) := fun _ _ => rfl
theorem aeqE_eq : ∀ (ks : List Kd) (cs ds : List AVal), aeqS .eql (some ks) cs ds = aeqL ks cs ds := fun _ _ _ => rfl
theorem aeqE_ne : ∀ (ks : List Kd) (cs ds : List AVal), aeqS .neq (some ks) cs ds = (aeqL ks cs ds).map (!·) := fun _ _ _ => rfl
theorem abinE1 : ∀ (kd : Option Kd) (k : IntKind) (a b : Int), abin .add kd (.int k a) (.int k b) = some (.int k (k.wrap (a + b))) := fun _ _ _ _ => by simp [abin]
theorem abinE2 : ∀ (kd : Option Kd) (k : IntKind) (a b : Int), abin .sub kd (.int k a) (.int k b) = some (.int k (k.wrap (a - b))) := fun _ _ _ _ => by simp [abin]
theorem abinE3 : ∀ (kd : Option Kd) (k : IntKind) (a b : Int), abin .mul kd (.int k a) (.int k b) = some (.int k (k.wrap (a * b))) := fun _ _ _ _ => by simp [abin]
theorem abinE4 : ∀ (kd : Option Kd) (k : IntKind) (a b : Int), abin .quo kd (.int k a) (.int k b) = if b = 0 then none else some (.int k (k.wrap (a.tdiv b))) := fun _ _ _ _ => by simp [abin]
theorem abinE5 : ∀ (kd : Option Kd) (k : IntKind) (a b : Int), abin .rem kd (.int k a) (.int k b) = if b = 0 then none else some (.int k (a.tmod b)) := fun _ _ _ _ => by simp [abin]
theorem abinE6 : ∀ (kd : Option Kd) (k : IntKind) (a b : Int), abin .eql kd (.int k a) (.int k b) = some (.bool (a == b)) := fun _ _ _ _ => by simp [abin]
theorem abinE7 : ∀ (kd : Option Kd) (k : IntKind) (a b : Int), abin .neq kd (.int k a) (.int k b) = some (.bool (a != b)) := fun _ _ _ _ => by simp [abin]
theorem abinE8 : ∀ (kd : Option Kd) (k : IntKind) (a b : Int), abin .lss kd (.int k a) (.int k b) = some (.bool (decide (a < b))) := fun _ _ _ _ => by simp [abin]
theorem abinE9 : ∀ (kd : Option Kd) (k : IntKind) (a b : Int), abin .leq kd (.int k a) (.int k b) = some (.bool (decide (a ≤ b))) := fun _ _ _ _ => by simp [abin]
theorem abinE10 : ∀ (kd : Option Kd) (k : IntKind) (a b : Int), abin .gtr kd (.int k a) (.int k b) = some (.bool (decide (a > b))) := fun _ _ _ _ => by simp [abin]
theorem abinE11 : ∀ (kd : Option Kd) (k : IntKind) (a b : Int), abin .geq kd (.int k a) (.int k b) = some (.bool (decide (a ≥ b))) := fun _ _ _ _ => by simp [abin]
theorem abinE12 : ∀ (kd : Option Kd) (a b : List UInt8), abin .eql kd (.str a) (.str b) = some (.bool (a == b)) := fun _ _ _ => rfl
theorem abinE13 : ∀ (kd : Option Kd) (a b : List UInt8), abin .neq kd (.str a) (.str b) = some (.bool (!(a == b))) := fun _ _ _ => rfl
theorem abinE14 : ∀ (kd : Option Kd) (a b : List UInt8), abin .add kd (.str a) (.str b) = if a.length + b.length ≤ 4611686018427387904 then some (.str (a ++ b)) else none := fun _ _ _ => rfl
theorem abinE15 : ∀ (a b : Bool), abin .eql (some .bool) (.bool a) (.bool b) = some (.bool (a == b)) := fun _ _ => rfl
theorem abinE16 : ∀ (a b : Bool), abin .neq (some .bool) (.bool a) (.bool b) = some (.bool (!(a == b))) := fun _ _ => rfl
theorem get0 : ∀ {α : Type} (a0 : α) (l : List α) (x : α), (a0 :: l).getD 0 x = a0 := fun _ _ _ => rfl
theorem set0 : ∀ {α : Type} (a0 : α) (l : List α) (x : α), (a0 :: l).set 0 x = x :: l := fun _ _ _ => rfl
theorem get1 : ∀ {α : Type} (a0 a1 : α) (l : List α) (x : α), (a0 :: a1 :: l).getD 1 x = a1 := fun _ _ _ _ => rfl
theorem set1 : ∀ {α : Type} (a0 a1 : α) (l : List α) (x : α), (a0 :: a1 :: l).set 1 x = a0 :: x :: l := fun _ _ _ _ => rfl
theorem get2 : ∀ {α : Type} (a0 a1 a2 : α) (l : List α) (x : α), (a0 :: a1 :: a2 :: l).getD 2 x = a2 := fun _ _ _ _ _ => rfl
theorem set2 : ∀ {α : Type} (a0 a1 a2 : α) (l : List α) (x : α), (a0 :: a1 :: a2 :: l).set 2 x = a0 :: a1 :: x :: l := fun _ _ _ _ _ => rfl
theorem get3 : ∀ {α : Type} (a0 a1 a2 a3 : α) (l : List α) (x : α), (a0 :: a1 :: a2 :: a3 :: l).getD 3 x = a3 := fun _ _ _ _ _ _ => rfl
theorem set3 : ∀ {α : Type} (a0 a1 a2 a3 : α) (l : List α) (x : α), (a0 :: a1 :: a2 :: a3 :: l).set 3 x = a0 :: a1 :: a2 :: x :: l := fun _ _ _ _ _ _ => rfl
theorem get4 : ∀ {α : Type} (a0 a1 a2 a3 a4 : α) (l : List α) (x : α), (a0 :: a1 :: a2 :: a3 :: a4 :: l).getD 4 x = a4 := fun _ _ _ _ _ _ _ => rfl
theorem set4 : ∀ {α : Type} (a0 a1 a2 a3 a4 : α) (l : List α) (x : α), (a0 :: a1 :: a2 :: a3 :: a4 :: l).set 4 x = a0 :: a1 :: a2 :: a3 :: x :: l := fun _ _ _ _ _ _ _ => rfl
theorem get5 : ∀ {α : Type} (a0 a1 a2 a3 a4 a5 : α) (l : List α) (x : α), (a0 :: a1 :: a2 :: a3 :: a4 :: a5 :: l).getD 5 x = a5 := fun _ _ _ _ _ _ _ _ => rfl
theorem set5 : ∀ {α : Type} (a0 a1 a2 a3 a4 a5 : α) (l : List α) (x : α), (a0 :: a1 :: a2 :: a3 :: a4 :: a5 :: l).set 5 x = a0 :: a1 :: a2 :: a3 :: a4 :: x :: l := fun _ _ _ _ _ _ _ _ => rfl
theorem get6 : ∀ {α : Type} (a0 a1 a2 a3 a4 a5 a6 : α) (l : List α) (x : α), (a0 :: a1 :: a2 :: a3 :: a4 :: a5 :: a6 :: l).getD 6 x = a6 := fun _ _ _ _ _ _ _ _ _ => rfl
theorem set6 : ∀ {α : Type} (a0 a1 a2 a3 a4 a5 a6 : α) (l : List α) (x : α), (a0 :: a1 :: a2 :: a3 :: a4 :: a5 :: a6 :: l).set 6 x = a0 :: a1 :: a2 :: a3 :: a4 :: a5 :: x :: l := fun _ _ _ _ _ _ _ _ _ => rfl
theorem get7 : ∀ {α : Type} (a0 a1 a2 a3 a4 a5 a6 a7 : α) (l : List α) (x : α), (a0 :: a1 :: a2 :: a3 :: a4 :: a5 :: a6 :: a7 :: l).getD 7 x = a7 := fun _ _ _ _ _ _ _ _ _ _ => rfl
theorem set7 : ∀ {α : Type} (a0 a1 a2 a3 a4 a5 a6 a7 : α) (l : List α) (x : α), (a0 :: a1 :: a2 :: a3 :: a4 :: a5 :: a6 :: a7 :: l).set 7 x = a0 :: a1 :: a2 :: a3 :: a4 :: a5 :: a6 :: x :: l := fun _ _ _ _ _ _ _ _ _ _ => rfl
theorem getJ : ∀ {α : Type} (a0 a1 a2 a3 a4 a5 a6 a7 : α) (l : List α) (n : Nat) (x : α), (a0 :: a1 :: a2 :: a3 :: a4 :: a5 :: a6 :: a7 :: l).getD (n + 8) x = l.getD n x := fun _ _ _ _ _ _ _ _ _ _ _ => rfl
theorem setJ : ∀ {α : Type} (a0 a1 a2 a3 a4 a5 a6 a7 : α) (l : List α) (n : Nat) (x : α), (a0 :: a1 :: a2 :: a3 :: a4 :: a5 :: a6 :: a7 :: l).set (n + 8) x = a0 :: a1 :: a2 :: a3 :: a4 :: a5 :: a6 :: a7 :: l.set n x := fun _ _ _ _ _ _ _ _ _ _ _ => rfl
def kxA0 := And.intro @aopE1 <| And.intro @aopE2 <| And.intro @aopE3 <| And.intro @aopE4 <| And.intro @aopE5 <| And.intro @aopE6 <| And.intro @aopE7 <| And.intro @aopE8 <| And.intro @aopE9 <| @aopE10
def kxA1 := And.intro @aopE11 <| And.intro @aopE12 <| And.intro @aopE13 <| And.intro @aopE14 <| And.intro @aopE15 <| And.intro @aopE16 <| And.intro @aopE17 <| And.intro @aopE18 <| And.intro @aopE19 <| @aopE20
def kxA2 := And.intro @aopE21 <| And.intro @aopE22 <| And.intro @aopE23 <| And.intro @aopE24 <| And.intro @aopE25 <| And.intro @aopE26 <| And.intro @aopE27 <| And.intro @aopE28 <| And.intro @aopE29 <| @atgE1
def kxA3 := And.intro @atgE2 <| And.intro @atgE3 <| And.intro @atgE4 <| And.intro @atgE5 <| And.intro @atgE6 <| And.intro @atgE7 <| And.intro @atgE8 <| And.intro @atgE9 <| And.intro @atgE10 <| @atgE11
def kxA4 := And.intro @atgE12 <| And.intro @atgE13 <| And.intro @atgE14 <| And.intro @atgE15 <| And.intro @atgE16 <| And.intro @atgE17 <| And.intro @atgE18 <| And.intro @atgE19 <| And.intro @atgE20 <| @atgE21
def kxA5 := And.intro @atgE22 <| And.intro @atgE23 <| And.intro @atgE24 <| And.intro @atgE25 <| And.intro @atgE26 <| And.intro @atgE27 <| And.intro @atgE28 <| @atgE29
def kxB0 := And.intro @vgE1 <| And.intro @vgE2 <| And.intro @vgE3 <| And.intro @vgE4 <| And.intro @vgE5 <| And.intro @vgE6 <| And.intro @vgE7 <| And.intro @vgE8 <| And.intro @vgE9 <| @vgE10
def kxB1 := And.intro @vgE11 <| And.intro @vgE12 <| And.intro @vgE13 <| And.intro @vgE14 <| And.intro @vgE15 <| And.intro @vgE16 <| And.intro @vgE17 <| And.intro @vgE18 <| And.intro @vgE19 <| @vgE20
def kxB2 := And.intro @vgE21 <| And.intro @vgE22 <| And.intro @vgE23 <| And.intro @vgE24 <| And.intro @vgE25 <| And.intro @vgE26 <| And.intro @vgE27 <| And.intro @vgE28 <| @vgE29
def kxC0 := And.intro @panV_one <| And.intro @panV_nil <| And.intro @cells_clo <| And.intro @isC_clo <| And.intro @anil_ie <| And.intro @anil_in <| And.intro @aeval_tmp <| And.intro @aeval_int <| And.intro @aeval_bool <| @aeval_str
def kxC1 := And.intro @aeval_snil <| And.intro @aeval_nptr <| And.intro @aeval_nmap <| And.intro @aeval_agg <| And.intro @absC_int <| And.intro @absC_bool <| And.intro @absC_str <| And.intro @absC_snil <| And.intro @absC_nptr <| @absC_nmap
def kxC2 := And.intro @aeval_glob <| And.intro @obj_lit <| And.intro @slot_lit <| And.intro @app_none <| And.intro @app_nn <| And.intro @app_upd <| And.intro @app_updn <| And.intro @gd_none <| And.intro @gd_some <| @cells_agg
def kxC3 := And.intro @cells_pv <| And.intro @cells_snil <| And.intro @cells_ref <| And.intro @cells_row <| And.intro @cells_map <| And.intro @isC_pv <| And.intro @isC_snil <| And.intro @isC_ref <| And.intro @isC_row <| @isC_map
def kxC4 := And.intro @toPs_nil <| And.intro @toPs_pv <| And.intro @toPs_snil <| And.intro @arows_nil <| And.intro @arows_cons <| And.intro @afill_nil <| And.intro @afill_cons <| And.intro @splice_e <| And.intro @src_snil <| @src_pv
def kxC5 := And.intro @src_str <| And.intro @srcKd_1 <| And.intro @srcKd_2 <| And.intro @all_bRow <| And.intro @nums_bRow <| And.intro @strOf_map <| And.intro @src_row <| And.intro @bnd_none <| And.intro @bnd_some <| @fold_nil
def kxC6 := And.intro @fold_cons <| And.intro @amax_e <| And.intro @amin_e <| And.intro @comp_nil <| And.intro @comp_cons <| And.intro @gres_none <| And.intro @gres_some <| And.intro @ares_nil <| And.intro @ares_tmp <| @ares_cell
def kxC7 := And.intro @aresO_cell <| And.intro @pack_one <| And.intro @pack_nil <| And.intro @pack_two <| And.intro @toMV_agg <| And.intro @nilC_tmp <| And.intro @nilC_int <| And.intro @nilC_bool <| And.intro @nilC_str <| @nilC_nil
def kxC8 := And.intro @anil_eq <| And.intro @anil_ne <| And.intro @aeval_nili <| And.intro @absC_nili <| And.intro @nums_nil <| And.intro @nums_cons <| And.intro @mval_t <| And.intro @mval_f <| And.intro @toMV_pv <| @aeqE_nil
def kxC9 := And.intro @aeqE_cons <| And.intro @aeqE_int <| And.intro @aeqE_bool <| And.intro @aeqE_str <| And.intro @aeqE_eq <| And.intro @aeqE_ne <| And.intro @abinE1 <| And.intro @abinE2 <| And.intro @abinE3 <| @abinE4
def kxC10 := And.intro @abinE5 <| And.intro @abinE6 <| And.intro @abinE7 <| And.intro @abinE8 <| And.intro @abinE9 <| And.intro @abinE10 <| And.intro @abinE11 <| And.intro @abinE12 <| And.intro @abinE13 <| @abinE14
def kxC11 := And.intro @abinE15 <| And.intro @abinE16 <| And.intro @get0 <| And.intro @set0 <| And.intro @get1 <| And.intro @set1 <| And.intro @get2 <| And.intro @set2 <| And.intro @get3 <| @set3
def kxC12 := And.intro @get4 <| And.intro @set4 <| And.intro @get5 <| And.intro @set5 <| And.intro @get6 <| And.intro @set6 <| And.intro @get7 <| And.intro @set7 <| And.intro @getJ <| @setJ
def kxP0 := And.intro @List.map_cons.{0,0} <| And.intro @List.map_nil.{0,0} <| And.intro @List.all_cons.{0} <| And.intro @List.all_nil.{0} <| And.intro @List.take_succ_cons.{0} <| And.intro @List.take_zero.{0} <| And.intro @List.drop_succ_cons.{0} <| And.intro @List.drop_zero.{0} <| And.intro @List.length_cons.{0} <| @List.length_nil.{0}
def kxP1 := And.intro @List.length_map.{0,0} <| And.intro @List.nil_append.{0} <| And.intro @List.cons_append.{0} <| And.intro @List.append_nil.{0} <| And.intro @List.getElem?_cons_zero.{0} <| And.intro @List.getElem?_cons_succ.{0} <| And.intro @List.size_toArray.{0} <| And.intro @List.toList_toArray.{0} <| And.intro @Option.bind_some.{0,0} <| @Option.map_some.{0,0}
def kxP2 := And.intro @Option.map_none.{0,0} <| And.intro @Option.getD_some.{0} <| And.intro @Bool.and_self <| And.intro @Bool.and_true <| And.intro @Bool.true_and <| And.intro @Bool.not_true <| And.intro @Bool.not_false <| And.intro @Int.toNat_natCast <| And.intro @Nat.zero_add <| @Nat.add_zero
def kxP3 := And.intro @Nat.zero_mul <| And.intro @Nat.one_mul <| And.intro @cast0 <| And.intro @Int.cast_ofNat_Int <| And.intro @beq_true <| And.intro @beq_false <| And.intro and_self <| And.intro and_true <| And.intro true_and <| true_or
def kxP4 := And.intro or_true <| And.intro @if_true.{1} <| And.intro @if_false.{1} <| And.intro @ite_self.{1} <| And.intro Bool.false_eq_true <| And.intro @eq_self.{1} <| And.intro @beq_self_eq_true.{0} <| And.intro Nat.lt_irrefl <| And.intro @ne_eq.{1} <| not_true_eq_false
def kxP5 := And.intro not_false_eq_true <| And.intro @decide_true <| And.intro @decide_false <| And.intro Nat.succ_ne_self <| And.intro Int.natCast_nonneg <| And.intro @implies_true.{1} <| And.intro @true_implies <| And.intro @map_ite <| And.intro @map_ite' <| @List.replicate_zero.{0}
def kxP6 := And.intro @List.replicate_succ.{0} <| And.intro @Bool.true_eq_false <| And.intro @PVal.int.injEq <| And.intro @PVal.bool.injEq <| And.intro @PVal.str.injEq <| @PVal.slice.injEq
def kx := And.intro @kxA0 <| And.intro @kxA1 <| And.intro @kxA2 <| And.intro @kxA3 <| And.intro @kxA4 <| And.intro @kxA5 <| And.intro @kxB0 <| And.intro @kxB1 <| And.intro @kxB2 <| And.intro @kxC0 <| And.intro @kxC1 <| And.intro @kxC2 <| And.intro @kxC3 <| And.intro @kxC4 <| And.intro @kxC5 <| And.intro @kxC6 <| And.intro @kxC7 <| And.intro @kxC8 <| And.intro @kxC9 <| And.intro @kxC10 <| And.intro @kxC11 <| And.intro @kxC12 <| And.intro @kxP0 <| And.intro @kxP1 <| And.intro @kxP2 <| And.intro @kxP3 <| And.intro @kxP4 <| And.intro @kxP5 <| And.intro @kxP6 <| And.intro @kw1 <| And.intro @kw2 <| And.intro @kw5 <| @kw6
def ky := And.intro @kw3 <| @kw4
end Go.Abs
namespace Go.Abs
open Go
variable {P : Program} {env : Env} {pin : Nat} {σ : St} {Q : Exit → St → Prop}
section
variable {K : KT} {t : Tg K} {p : Prop} {f : FuncId} {vals cargs : List AVal} {res : AVal} {d : Option Nat} {rest : List COp} {acc : Option Tr}
theorem Ctr.pure (hent : ∀ vargs w, (callFunc f vargs).run P w = .ok (.enter f vargs) w) (hac : AC P env.gl f cargs [] res []) (hs : subL vals cargs) (hsc : inScopeL (hasObj []) vals = true) (hres : inScope (hasObj []) res = true)
    {K' : List Nat → Eff → Prop} {KP : Value → St → Prop} (h : K' [] ⟨res, []⟩) : Ctr P env f vals σ K' KP := by
  refine .inl ⟨vals, [], [], [], res, [], hac.sub hs, fun o ho => CallFits.pure ho hent (by rw [renL_none _ _ hsc]) hsc, ?_⟩
  rw [ren_none _ _ hres]
  exact h
theorem CK.cp (hent : ∀ vargs w, (callFunc f vargs).run P w = .ok (.enter f vargs) w) (hac : p → AC P env.gl f vals [] res []) (hsc : inScopeL (hasObj []) vals = true) (hres : inScope (hasObj []) res = true)
    (h : VL P env K t rest (accAdd acc ([], [])) (σ.app d ⟨cw p res, []⟩)) : CK P env K t p f vals d rest acc σ :=
  ⟨fun hp => Ctr.pure hent (hac hp) (subL_refl _) hsc hres (by rw [cw_pos hp] at h; exact h), fun hp => by rw [cw_neg hp] at h; exact h⟩
theorem CK.split (h1 : p → CK P env K t True f vals d rest acc σ) (h2 : ¬ p → VL P env K t rest (accAdd acc ([], [])) (σ.app d ⟨.tup [], []⟩)) : CK P env K t p f vals d rest acc σ :=
  ⟨fun hp => (h1 hp).1 trivial, h2⟩
theorem VX.split {r : Option Eff} {T : List Nat} (h1 : p → VX P env K t True r T d rest acc σ) (h2 : ¬ p → VL P env K t rest (accAdd acc ([], [])) (σ.app d ⟨.tup [], []⟩)) : VX P env K t p r T d rest acc σ :=
  ⟨fun hp => (h1 hp).1 trivial, h2⟩
theorem CK.co {A : List AVal} {O vobjs : List (Option AObj)} {objs' : List (Option AObj)} (ids news : List Nat) (hent : ∀ vargs w, (callFunc f vargs).run P w = .ok (.enter f vargs) w)
    (hac : AC P env.gl f A vobjs res objs') (hobjs : ids.map σ.obj = O)
    (hA : renL (tau (ids ++ news)) A = vals) (hO : renOs (tau (ids ++ news)) vobjs = O) (hsA : inScopeL (hasObj vobjs) A = true) (hsO : allS (hasObj vobjs) vobjs = true)
    (hn : ((ids ++ news).Nodup ∧ ∀ id ∈ ids ++ news, id < env.nobj)) (hf : freshB σ news = true) (hl : objs'.length ≤ (ids ++ news).length)
    (h : VL P env K t rest (accAdd acc (ids ++ news, (callUpd (tau (ids ++ news)) (ids ++ news) 0 objs').map Prod.fst)) (σ.app d ⟨ren (tau (ids ++ news)) res, callUpd (tau (ids ++ news)) (ids ++ news) 0 objs'⟩)) : CK P env K t True f vals d rest acc σ :=
  ⟨fun _ => .inl ⟨A, vobjs, ids, news, res, objs', hac, fun _ ho => fitsC ids news ho hent hobjs hA hO hsA hsO hn hf hl, h⟩, fun h => (h trivial).elim⟩
theorem CK.po {A : List AVal} {O vobjs : List (Option AObj)} {objs' : List (Option AObj)} {x : Value} (ids news : List Nat) (hent : ∀ vargs w, (callFunc f vargs).run P w = .ok (.enter f vargs) w)
    (hac : AP P env.gl f A vobjs x objs') (hobjs : ids.map σ.obj = O)
    (hA : renL (tau (ids ++ news)) A = vals) (hO : renOs (tau (ids ++ news)) vobjs = O) (hsA : inScopeL (hasObj vobjs) A = true) (hsO : allS (hasObj vobjs) vobjs = true)
    (hn : ((ids ++ news).Nodup ∧ ∀ id ∈ ids ++ news, id < env.nobj)) (hf : freshB σ news = true) (hl : objs'.length ≤ (ids ++ news).length)
    (h : K acc (some x) ⟨σ.slots, setAll σ.objs (callUpd (tau (ids ++ news)) (ids ++ news) 0 objs')⟩) : CK P env K t True f vals d rest acc σ :=
  ⟨fun _ => .inr ⟨A, vobjs, ids, news, x, objs', hac, fun _ ho => fitsC ids news ho hent hobjs hA hO hsA hsO hn hf hl, h⟩, fun h => (h trivial).elim⟩
end
theorem wrapS (k : Nat) (h : k < 9223372036854775807) : IntKind.i64.wrap ((k : Int) + 1) = ((k + 1 : Nat) : Int) := by rw [wrap64 _ (by omega) (by omega)]; rfl
theorem SB.e {α : Type} [BEq α] [LawfulBEq α] {a b : α} {A B : Prop} {t : Tg (A, B)} (h1 : a = b → A) (h2 : a ≠ b → B) : SB (a == b) A B t := ⟨fun h => h1 (by simpa using h), fun h => h2 (by simpa using h)⟩
theorem SB.n {α : Type} [BEq α] [LawfulBEq α] {a b : α} {A B : Prop} {t : Tg (A, B)} (h1 : a ≠ b → A) (h2 : a = b → B) : SB (a != b) A B t := ⟨fun h => h1 (by simpa using h), fun h => h2 (by simpa using h)⟩
theorem ren_e1 (ι : Nat → Nat) (i o : Nat) : ren ι (.ref i o) = .ref (ι i) o := by simp [ren]
theorem ren_e2 (ι : Nat → Nat) (i o : Nat) : ren ι (.row i o) = .row (ι i) o := by simp [ren]
theorem ren_e3 (ι : Nat → Nat) (i : Nat) : ren ι (.map i) = .map (ι i) := by simp [ren]
theorem ren_e4 (ι : Nat → Nat) (p : PVal) : ren ι (.pv p) = .pv p := by simp [ren]
theorem ren_e5 (ι : Nat → Nat) : ren ι .snil = .snil := by simp [ren]
theorem ren_e6 (ι : Nat → Nat) (l : List AVal) : ren ι (.agg l) = .agg (renL ι l) := by simp [ren]
theorem ren_e7 (ι : Nat → Nat) (l : List AVal) : ren ι (.tup l) = .tup (renL ι l) := by simp [ren]
theorem ren_e8 (ι : Nat → Nat) : ren ι .junk = .junk := by simp [ren]
theorem ren_e9 (ι : Nat → Nat) (f : Nat) (l : List AVal) : ren ι (.clo f l) = .clo f (renL ι l) := by simp [ren]
theorem renL_e1 (ι : Nat → Nat) : renL ι [] = [] := by simp [renL]
theorem renL_e2 (ι : Nat → Nat) (a : AVal) (r : List AVal) : renL ι (a :: r) = ren ι a :: renL ι r := by simp [renL]
theorem renO_e1 (ι : Nat → Nat) (l : List AVal) : renO ι (.cells l) = .cells (renL ι l) := rfl
theorem renO_e2 (ι : Nat → Nat) (sz : Nat) (xs : List (List PVal)) : renO ι (.row sz xs) = .row sz xs := rfl
theorem renO_e3 (ι : Nat → Nat) (kd : Kd) (es : List (PVal × Bool × List PVal)) : renO ι (.map kd es) = .map kd es := rfl
theorem renO_e4 (ι : Nat → Nat) : renO ι .dead = .dead := rfl
theorem cu_e1 (ι : Nat → Nat) (k : Nat) (o : List (Option AObj)) : callUpd ι [] k o = [] := rfl
theorem cu_e2 (ι : Nat → Nat) (i : Nat) (l : List Nat) (k : Nat) (o : List (Option AObj)) : callUpd ι (i :: l) k o = (i, renO ι ((o.getD k none).getD .dead)) :: callUpd ι l (k + 1) o := rfl
theorem setAll_n (o : List (Option AObj)) : setAll o [] = o := rfl
theorem setAll_c (o : List (Option AObj)) (q : Nat × AObj) (r : List (Nat × AObj)) : setAll o (q :: r) = setAll (o.set q.1 (some q.2)) r := rfl
theorem tau_e (l : List Nat) (k : Nat) : tau l k = l.getD k 0 := rfl
def kz1 := And.intro @ren_e1 <| And.intro @ren_e2 <| And.intro @ren_e3 <| And.intro @ren_e4 <| And.intro @ren_e5 <| And.intro @ren_e6 <| And.intro @ren_e7 <| And.intro @ren_e8 <| And.intro @ren_e9 <| And.intro @renL_e1 <| @renL_e2
def kz2 := And.intro @renO_e1 <| And.intro @renO_e2 <| And.intro @renO_e3 <| And.intro @renO_e4 <| And.intro @cu_e1 <| And.intro @cu_e2 <| And.intro @setAll_n <| And.intro @setAll_c <| @tau_e
def kz := And.intro @kz1 @kz2
def weakQ (env : Env) (pin : Nat) (Q : Exit → St → Prop) : Exit → St → Prop := fun e σ => ∃ σ', Weak env pin σ σ' ∧ Q e σ'
theorem SW.weakEnd {c : Code} (h : SW P env pin c σ (weakQ env pin Q)) : SW P env pin c σ Q := fun hl E g M a w hR hG =>
  wp_mono (h hl E g M a w hR hG) fun e a' w' ⟨σ', g', M', ⟨σ'', hw, hq⟩, hR', hM, hA, hl'⟩ => by
    obtain ⟨hl2, hw2⟩ := hw hl'
    obtain ⟨g2, M2, hR2, hM2, hA2⟩ := hw2 _ _ _ _ _ hR'
    exact ⟨σ'', g2, M2, hq, hR2, Mem.le_trans hM hM2, hA.trans hA2, hl2⟩
def NX {ι : Type} (env : Env) (pin : Nat) (I : ι → St) (μ : ι → Nat) (t : Tg (I, μ)) (m : Nat) (σ : St) : Prop := ∃ j, Weak env pin σ (I j) ∧ μ j < m
theorem LW.loop {ι : Type} {c : Code} {t : Tg (Code.loop c, Q)} (hE : EnvOK P env) (hm : P.follows .mixedOrders = true) (I : ι → St) (μ : ι → Nat) (i0 : ι) (h0 : Weak env pin σ (I i0))
    (round : ∀ i, VC P env pin c (I i) (thenQ (NX env pin I μ .mk (μ i)) Q)) : LW P env pin (.loop c) σ Q t :=
  SW.loop I μ i0 h0 fun i => VC.to hE hm c (round i)
theorem REG.ok {ops : Array Oper} {t : Tg ops} {tr : Tr} (h : regT ops (anc ops) (pairAt tr) = true) : REG ops t tr := h
theorem PREG.ok {ops : Array Oper} {t : Tg ops} {tr : Tr} (h : (regT ops (anc ops) (pairAt tr) && lateOK ops tr.length && tr.all fun r => r.2.isEmpty) = true) : PREG ops t tr := h
theorem LW.weak {c : Code} {σ' : St} {t : Tg (c, Q)} (hw : Weak env pin σ σ') (h : LW P env pin c σ' Q .mk) : LW P env pin c σ Q t := SW.weak hw h
end Go.Abs
namespace Go.Abs
open Go
variable {P : Program} {env : Env} {pin : Nat} {σ : St} {Q : Exit → St → Prop}
variable {K : KT} {t : Tg K} {p : Prop} {f : FuncId} {vals cargs : List AVal} {res : AVal} {d : Option Nat} {rest : List COp} {acc : Option Tr}
theorem CK.cpo {A : List AVal} {O vobjs : List (Option AObj)} (ids : List Nat) (hent : ∀ vargs w, (callFunc f vargs).run P w = .ok (.enter f vargs) w)
    (hac : p → AC P env.gl f A vobjs res vobjs) (hobjs : ids.map σ.obj = O)
    (hA : renL (tau ids) A = vals) (hO : renOs (tau ids) vobjs = O) (hsA : inScopeL (hasObj vobjs) A = true) (hsO : allS (hasObj vobjs) vobjs = true)
    (hn : (ids.Nodup ∧ ∀ id ∈ ids, id < env.nobj)) (hl : vobjs.length ≤ ids.length) (hr : ren (tau ids) res = res) (hs : (callUpd (tau ids) ids 0 vobjs).foldl (fun l q => l.set q.1 (some q.2)) σ.objs = σ.objs)
    (h : VL P env K t rest none (σ.app d ⟨cw p res, []⟩)) : CK P env K t p f vals d rest none σ := by
  by_cases hp : p
  · rw [cw_pos hp] at h
    refine CK.split (fun _ => ?_) (fun hq => absurd hp hq)
    refine CK.co ids [] hent (hac hp) hobjs (by simpa using hA) (by simpa using hO) hsA hsO (by simpa using hn) (by simp [freshB]) (by simpa using hl) ?_
    simp only [List.append_nil, accAdd, Option.map_none, hr]
    have e : σ.app d ⟨res, callUpd (tau ids) ids 0 vobjs⟩ = σ.app d ⟨res, []⟩ := by
      unfold St.app
      congr 1
    rw [e]
    exact h
  · rw [cw_neg hp] at h
    exact CK.split (fun hq => absurd hq hp) (fun _ => h)
end Go.Abs
namespace Go.Abs
open Go
variable {P : Program} {env : Env} {pin : Nat} {σ : St} {Q : Exit → St → Prop}
def AD (P : Program) (gl : Nat → Option (List PVal)) (f : FuncId) (args : List AVal) (objs : List (Option AObj)) (u u' : FrameMode) (objs' : List (Option AObj)) : Prop :=
  ∀ (w : World) (M : Mem) (g : Gh) (vargs : List Value), Rel ⟨w, M, blocksOf g objs, []⟩ ⟨args, objs⟩ g M ⟨vargs.toArray, []⟩ w → GOKE ⟨fun _ => none, gl, fun _ => 0, 0⟩ ⟨w, M, blocksOf g objs, []⟩ M →
    CallsD P f vargs.toArray u w fun e u2 w' => ∃ v g' M', e = .returned v ∧ u2 = u' ∧ Rel ⟨w, M, blocksOf g objs, []⟩ ⟨[.junk], objs'⟩ g' M' ⟨#[v], []⟩ w' ∧ ∀ id, hasObj objs id = true → g.agree g' id
inductive Rec' : FrameMode → AVal → FrameMode → Prop
  | idle : Rec' .returning (.pv (.err true)) .returning
  | found (x : Value) (rv : AVal) (h : panV rv = some x) : Rec' (.panicking (oneP x)) rv (.panicking [{ v := x, recovered := true }])
theorem scalV_rd {p : PVal} {v : Value} {M : Mem} (h : scalV p = some v) : Rd M p v := by
  unfold scalV at h
  split at h <;> cases h <;> constructor
theorem scalVs_rd {M : Mem} : ∀ {cs : List PVal} {vs : List Value}, scalVs cs = some vs → vs.length = cs.length ∧ ∀ i, i < cs.length → Rd M (cs.getD i .nilptr) (vs.getD i undef)
  | [], vs, h => by cases h; exact ⟨rfl, fun i hi => by simp at hi⟩
  | c :: r, vs, h => by
    unfold scalVs at h
    split at h
    · rename_i v ws h1 h2
      cases h
      obtain ⟨h3, h4⟩ := scalVs_rd (M := M) h2
      refine ⟨by simp [h3], fun i hi => ?_⟩
      cases i with
      | zero => exact scalV_rd h1
      | succ i => exact h4 i (by simpa using hi)
    · cases h
theorem panV_V {rv : AVal} {x : Value} (h : panV rv = some x) (g : Gh) (D : Nat → Prop) (M : Mem) : V g D M rv x := by
  unfold panV at h
  split at h
  · split at h
    · rename_i t cs vs hs
      cases h
      obtain ⟨h1, h2⟩ := scalVs_rd (M := M) hs
      exact .pv (.ifca _ _ vs h1 h2)
    · cases h
  · split at h
    · rename_i t c v hs
      cases h
      exact .pv (.ifco _ _ _ (scalV_rd hs))
    · cases h
  · cases h
theorem Rel.enter {E : Ent} {args : List AVal} {objs : List (Option AObj)} {g : Gh} {M : Mem} {vargs : List Value} {w : World} (hR : Rel E ⟨args, objs⟩ g M ⟨vargs.toArray, []⟩ w) (m nobj : Nat) :
    Rel E ⟨args ++ List.replicate m .junk, objs ++ List.replicate (nobj - objs.length) none⟩ g M ⟨vargs.toArray ++ Array.replicate m undef, []⟩ w := by
  have hla : vargs.length = args.length := by simpa using hR.size
  have hobj : ∀ id, St.obj ⟨args ++ List.replicate m .junk, objs ++ List.replicate (nobj - objs.length) none⟩ id = St.obj ⟨args, objs⟩ id := fun id => by
    simp only [St.obj, List.getD]
    by_cases hid : id < objs.length
    · rw [List.getElem?_append_left hid]
    · rw [List.getElem?_append_right (by omega), List.getElem?_eq_none (by omega : objs.length ≤ id)]
      rw [List.getElem?_replicate]
      split <;> rfl
  have hdom : St.dom ⟨args ++ List.replicate m .junk, objs ++ List.replicate (nobj - objs.length) none⟩ = St.dom ⟨args, objs⟩ := by
    funext id; simp only [St.dom, hobj]
  refine ⟨by simp [hla], hR.defers, ?_, ?_, ?_, ?_, hR.sat, hR.M0, hR.Mnew, hR.size0, hR.same, ?_, hR.os, hR.tape, hR.output⟩
  · intro i hi
    rw [hdom]
    by_cases hia : i < args.length
    · have e1 : St.slot ⟨args ++ List.replicate m .junk, objs ++ List.replicate (nobj - objs.length) none⟩ i = St.slot ⟨args, objs⟩ i := by
        simp [St.slot, List.getElem?_append_left hia]
      have e2 : (vargs.toArray ++ Array.replicate m undef).getD i undef = vargs.toArray.getD i undef := by
        simp only [Array.getD_eq_getD_getElem?]
        rw [Array.getElem?_append_left (by simp; omega)]
      show V g _ M _ ((vargs.toArray ++ Array.replicate m undef).getD i undef)
      rw [e1, e2]; exact hR.slots i hia
    · have e1 : St.slot ⟨args ++ List.replicate m .junk, objs ++ List.replicate (nobj - objs.length) none⟩ i = .junk := by
        simp only [St.slot, List.getD]
        rw [List.getElem?_append_right (by omega), List.getElem?_replicate]
        split <;> rfl
      rw [e1]; exact .junk _
  · intro id o ho; rw [hobj] at ho; rw [hdom]; exact hR.objs id o ho
  · intro id id' o o' b ho ho'; rw [hobj] at ho ho'; exact hR.apart id id' o o' b ho ho'
  · intro id o b ho; rw [hobj] at ho; exact hR.offM id o b ho
  · intro id o b ho; rw [hobj] at ho; exact hR.own0 id o b ho
theorem AD.of_body (hE : EnvOK P env) (hm : P.follows .mixedOrders = true) {f : FuncId} {fn : Func} {id0 t t' : Nat} {ty1 ty2 : TypeId} {p1 p2 : String} {a1 a2 : Array Edge} {tys : Array TypeId} {rest : Code} (hf : P.funcs[f]? = some fn)
    (hb : fn.body = some (.seq (.region id0 #[⟨some t, .call ⟨.builtin .recover, #[], tys⟩, ty1, p1, a1, none⟩, ⟨some t', .assign (.tmp t), ty2, p2, a2, none⟩] false) rest)) {args : List AVal} {objs objs' : List (Option AObj)} {u u' : FrameMode} {rv : AVal}
    (hres : fn.results = #[]) (hrec : Rec' u rv u') (hargs : args.length ≤ fn.ntmps) (hobjs : objs.length ≤ env.nobj) (ht : t < fn.ntmps)
    (h : VC P env objs.length rest ((⟨args ++ List.replicate (fn.ntmps - args.length) .junk, objs ++ List.replicate (env.nobj - objs.length) none⟩ : St).app (some t) ⟨rv, []⟩ |>.app (some t') ⟨rv, []⟩) (retQ env objs.length [] (.tup []) objs')) :
    AD P env.gl f args objs u u' objs' := by
  intro w M g vargs hR hG
  have hla : vargs.length = args.length := by simpa using hR.size
  refine callsD_of_wpS hf hb fun c₀ cs hu => ?_
  have esz : fn.ntmps - vargs.toArray.size = fn.ntmps - args.length := by simp [hla]
  rw [esz]
  have hR0 := hR.enter (fn.ntmps - args.length) env.nobj
  obtain ⟨x, hx, hrv, hV⟩ : ∃ x : Value, (recoverD (c₀ :: cs) = some (x, { c₀ with mode := u' } :: cs) ∨ (recoverD (c₀ :: cs) = none ∧ x = .nilIface ∧ u' = u)) ∧ True ∧ ∀ (g : Gh) (D : Nat → Prop) (M : Mem), V g D M rv x := by
    cases hrec with
    | idle => exact ⟨.nilIface, .inr ⟨by simp [recoverD, hu], rfl, rfl⟩, trivial, fun _ _ _ => .pv .errn⟩
    | found x _ hp => exact ⟨x, .inl (by simp [recoverD, hu, oneP]), trivial, fun g D M => panV_V hp g D M⟩
  apply wpS_seq
  apply wpS_region
  have hsz : ((#[⟨some t, .call ⟨.builtin .recover, #[], tys⟩, ty1, p1, a1, none⟩, ⟨some t', .assign (.tmp t), ty2, p2, a2, none⟩] : Array Oper)).size = 2 := rfl
  rw [hsz]
  show wpOpsS P _ _ [0, 1] _ _ _
  have hmain : ∀ cs', ((∃ v, v = x ∧ cs' = { c₀ with mode := u' } :: cs)) → wpOpsS P #[⟨some t, .call ⟨.builtin .recover, #[], tys⟩, ty1, p1, a1, none⟩, ⟨some t', .assign (.tmp t), ty2, p2, a2, none⟩] (Exit.thenS (rest.wpS P (bodyPostS P fn c₀ cs fun e u2 w' => ∃ v g' M', e = .returned v ∧ u2 = u' ∧ Rel ⟨w, M, blocksOf g objs, []⟩ ⟨[.junk], objs'⟩ g' M' ⟨#[v], []⟩ w' ∧ ∀ id, hasObj objs id = true → g.agree g' id)) (bodyPostS P fn c₀ cs fun e u2 w' => ∃ v g' M', e = .returned v ∧ u2 = u' ∧ Rel ⟨w, M, blocksOf g objs, []⟩ ⟨[.junk], objs'⟩ g' M' ⟨#[v], []⟩ w' ∧ ∀ id, hasObj objs id = true → g.agree g' id)) [1]
      (Act.put { tmps := vargs.toArray ++ Array.replicate (fn.ntmps - args.length) undef, defers := [] } (some t) x) cs' w := by
    rintro cs' ⟨v, rfl, rfl⟩
    have h1 := hR0.put (some t) (x := rv) (hV _ _ _)
    have hev : (Act.put { tmps := vargs.toArray ++ Array.replicate (fn.ntmps - args.length) undef, defers := [] } (some t) v).eval (.tmp t) = v := by
      have hlt : t < (vargs.toArray ++ Array.replicate (fn.ntmps - args.length) undef).size := by simp; omega
      simp only [Act.put, Act.eval]
      rw [Array.getD_eq_getD_getElem?, Array.getElem?_setIfInBounds_self_of_lt hlt]
      rfl
    have h2 := h1.put (some t') (x := rv) (hV _ _ _)
    simp only [wpOpsS, List.getElem?_toArray, List.getElem?_cons_succ, List.getElem?_cons_zero, Region.wanted, if_true, execOp, hev, Sem.run_pure, Oper.upon, Exit.thenS]
    refine wpS_of_wp ?_
    refine wp_mono (VC.to hE hm rest h (by simp [St.app]; omega) _ g M _ w h2 hG) fun e a' w' ⟨σ', g', M', hq, hR', hM, hA, hl'⟩ => ?_
    obtain ⟨he, vs, τ, hvs, hws, hwo, hpin, hnd, hlen⟩ := hq
    have key : a'.defers = [] ∧ ∃ u2, ({ c₀ with mode := u' } :: cs : List Frame) = { c₀ with mode := u2 } :: cs ∧ ∃ v, (results fn a'.tmps).run P w' = .ok v w' ∧ (∃ v0 g' M', Ending.returned v = .returned v0 ∧ u2 = u' ∧ Rel ⟨w, M, blocksOf g objs, []⟩ ⟨[.junk], objs'⟩ g' M' ⟨#[v0], []⟩ w' ∧ ∀ id, hasObj objs id = true → g.agree g' id) := by
      refine ⟨hR'.defers, u', rfl, .tuple #[], by simp [results, hres], .tuple #[], _, M', rfl, rfl, hR'.wk (σ' := ⟨[.junk], objs'⟩) (tau τ) (by simp) rfl (fun i hi => .inl ?_) hwo (fun i j hi hj e => nodup_get_inj hnd (by simp at hi; omega) (by simp at hj; omega) e), fun id hid => ?_⟩
      · have hi0 : i = 0 := by simpa using hi
        subst hi0
        rfl
      · have hlt : id < objs.length := by
          rcases Nat.lt_or_ge id objs.length with h | h
          · exact h
          · simp [hasObj, List.getD, List.getElem?_eq_none h] at hid
        have hd : St.dom ((⟨args ++ List.replicate (fn.ntmps - args.length) .junk, objs ++ List.replicate (env.nobj - objs.length) none⟩ : St).app (some t) ⟨rv, []⟩ |>.app (some t') ⟨rv, []⟩) id := by
          intro h0
          have h1 : (objs ++ List.replicate (env.nobj - objs.length) none).getD id none = none := h0
          rw [List.getD_eq_getElem?_getD, List.getElem?_append_left hlt, ← List.getD_eq_getElem?_getD] at h1
          simp only [hasObj] at hid
          rw [h1] at hid; cases hid
        obtain ⟨⟨h1, h2, h3⟩, _⟩ := hA id hlt hd
        simp only [Gh.agree, hpin id hlt]
        exact ⟨h1, h2, h3⟩
    rcases he with rfl | rfl
    · exact key
    · exact key
  have hrun0 : (execOp (Act.eval { tmps := vargs.toArray ++ Array.replicate (fn.ntmps - args.length) undef, defers := [] }) ⟨some t, .call ⟨.builtin .recover, #[], tys⟩, ty1, p1, a1, none⟩).run P w = .ok .recover w := by
    simp [execOp, resolve, invoke, builtin, Sem.run_bind, Result.andThen]
  unfold wpOpsS
  simp only [List.getElem?_toArray, List.getElem?_cons_zero, Region.wanted, if_true, hrun0]
  rcases hx with hx | ⟨hx, rfl, rfl⟩
  · rw [hx]
    exact hmain _ ⟨x, rfl, rfl⟩
  · rw [hx]
    exact hmain _ ⟨_, rfl, by cases c₀; simp_all⟩
def defQ (P : Program) (env : Env) (fc : FuncId) (cs : List AVal) (rs : List ResultVar) (res : AVal) : Exit → St → Prop := fun e σ =>
  ∃ (u u' : FrameMode) (cargs : List AVal) (cobjs : List (Option AObj)) (ids : List Nat) (objs' : List (Option AObj)),
    (((e = .ret ∨ e = .normal) ∧ u = .returning) ∨ ∃ x, e = .panic (oneP x) ∧ u = .panicking (oneP x)) ∧ settle u' = .returning ∧ AD P env.gl fc cargs cobjs u u' objs' ∧
    cs = renL (tau (ids ++ [])) cargs ∧ ids.map σ.obj = cobjs.map (Option.map (renO (tau (ids ++ [])))) ∧ inScopeL (hasObj cobjs) cargs = true ∧ (∀ ob, some ob ∈ cobjs → inScopeO (hasObj cobjs) ob = true) ∧
    (ids ++ []).Nodup ∧ (∀ id, id ∈ ids ++ [] → id < env.nobj) ∧ objs'.length ≤ (ids ++ []).length ∧
    PK (St.obj ⟨σ.slots, setAll σ.objs (callUpd (tau (ids ++ [])) (ids ++ []) 0 objs')⟩) (ares env ⟨σ.slots, setAll σ.objs (callUpd (tau (ids ++ [])) (ids ++ []) 0 objs')⟩ rs) res
theorem Rel.value1 {E : Ent} {g : Gh} {M : Mem} {w : World} {v : Value} {x res : AVal} (hR : Rel E ⟨[x], σ.objs⟩ g M ⟨#[v], []⟩ w) (h : rdV σ.obj x res) : ∃ gk Mk, Rel E ⟨[res], []⟩ gk Mk ⟨#[v], []⟩ w := by
  obtain ⟨σk, xk, gk, Mk, h1, h2, h3, h4, h5, h6⟩ := hR.read1 (σ := σ) h σ.objs.length (Nat.le_refl _)
  have hno : ∀ i n ys, ¬ rowIs (σk.obj i) n ys := fun i n ys => by
    by_cases hi : i < σ.objs.length
    · exact h6 i n ys hi
    · rintro ⟨sz, e, _⟩
      simp [St.obj, List.getD, List.getElem?_eq_none (by omega : σk.objs.length ≤ i)] at e
  refine ⟨gk, Mk, rfl, h3.defers, fun i hi => ?_, fun id o ho => by simp [St.obj] at ho, fun id id' o o' b ho => by simp [St.obj] at ho, fun id o b ho => by simp [St.obj] at ho, h3.sat, h3.M0, h3.Mnew, h3.size0, h3.same, fun id o b ho => by simp [St.obj] at ho, h3.os, h3.tape, h3.output⟩
  have hi0 : i = 0 := by simpa using hi
  subst hi0
  have h7 := h3.slot 0
  have e : σk.slot 0 = xk := by simp [St.slot, h1]
  rw [e] at h7
  exact V.read hno h7 h5
set_option maxHeartbeats 1000000 in
theorem AC.of_defer (hE : EnvOK P env) (hm : P.follows .mixedOrders = true) {f fc : FuncId} {fn : Func} {r0 rest : Code} {i1 t9 : Nat} {ty1 ty2 : TypeId} {p1 p2 : String} {a1 a2 : Array Edge} {tys : Array TypeId} {caps : Array Operand} (hf : P.funcs[f]? = some fn)
    (hb : fn.body = some (.seq r0 (.seq (.region i1 #[⟨some t9, .makeFunc (.func fc) #[] caps, ty1, p1, a1, none⟩, ⟨none, .defer ⟨.value (.tmp t9), #[], tys⟩, ty2, p2, a2, none⟩] false) rest))) {args : List AVal} {res : AVal}
    (hargs : args.length ≤ fn.ntmps) {cs : List AVal} {σ1 : St} (hent : ∀ vargs w, (callFunc fc vargs).run P w = .ok (.enter fc vargs) w)
    (h0 : VC P env pin r0 ⟨args ++ List.replicate (fn.ntmps - args.length) .junk, List.replicate env.nobj none⟩ (fun e σ => e = .normal ∧ σ = σ1))
    (hcap : caps.toList.map (aeval env σ1) = cs) (hcs : ∀ c, c ∈ cs → ∃ id off, c = .ref id off ∧ id < pin) (ht9 : t9 < σ1.slots.length)
    (h1 : VC P env pin rest (σ1.app (some t9) ⟨.clo fc cs, []⟩) (defQ P env fc cs fn.results.toList res)) : AC P env.gl f args [] res [] := by
  intro w M g vargs hR hG
  have hla : vargs.length = args.length := by simpa using hR.size
  refine calls_of_wp_defers hf hb ?_
  have esz : fn.ntmps - vargs.toArray.size = fn.ntmps - args.length := by simp [hla]
  rw [esz]
  have hR0 := hR.enter (fn.ntmps - args.length) env.nobj
  refine wp_seq (wp_mono (VC.to hE hm r0 h0 (by simp) _ g M _ w hR0 hG) fun e b1 w1 ⟨σ1', g1, M1, ⟨he, hs1⟩, hR1, hM1, hA1, hl1⟩ => ?_)
  subst he hs1
  refine wp_seq (wp_region ?_)
  show wpOps P _ _ [0, 1] b1 w1
  have hop0 : aop env (some t9) (aeval env σ1') σ1'.obj (.makeFunc (.func fc) #[] caps) = some ⟨.clo fc cs, []⟩ := by
    simp only [aop, hcap]
    rfl
  have hG0 : GOKE env ⟨w, M, blocksOf g [], []⟩ M := hG
  have hG1 := hG0.mono hM1
  have hd0 := (aop_does (P := P) (o := ⟨some t9, .makeFunc (.func fc) #[] caps, ty1, p1, a1, none⟩) hR1 hG1.1 hE hl1 hop0).toW
  unfold wpOps
  simp only [List.getElem?_toArray, List.getElem?_cons_zero, Region.wanted, if_true]
  refine .inl (hd0 _ _ fun v w2 g2 M2 hR2 hag2 hM2 => ?_)
  replace hR2 : Rel _ (σ1'.app (some t9) ⟨.clo fc cs, []⟩) g2 M2 (b1.put (some t9) v) w2 := hR2
  show wpOps P _ _ [1] (b1.put (some t9) v) w2
  have hsl : (σ1'.app (some t9) ⟨.clo fc cs, []⟩).slot t9 = .clo fc cs := by simp [St.app, St.slot, ht9]
  have hV := hR2.slot t9
  rw [hsl] at hV
  generalize hb2 : b1.put (some t9) v = b2 at hR2 hV
  generalize hu0 : b2.tmps.getD t9 undef = u0 at hV
  cases hV with
  | clo _ _ vs hvl hvV =>
    have hrun1 : (execOp b2.eval ⟨none, .defer ⟨.value (.tmp t9), #[], tys⟩, ty2, p2, a2, none⟩).run P w2 = .ok (.defer ⟨.fn (.func fc) vs.toArray, #[]⟩) w2 := by
      have hv1 : b2.eval (.tmp t9) = .func (.func fc) #[] vs.toArray := hu0
      simp [execOp, resolve, hv1, Deferred.ofValue, Sem.run_bind, Result.andThen]
    unfold wpOps
    simp only [List.getElem?_toArray, List.getElem?_cons_succ, List.getElem?_cons_zero, Region.wanted, if_true]
    refine .inl ?_
    unfold Oper.wp
    rw [hrun1, Oper.upon_defer]
    show wpOps P _ _ [] { b2 with defers := ⟨.fn (.func fc) vs.toArray, #[]⟩ :: b2.defers } w2
    have hdef : b2.defers = [] := hR2.defers
    rw [hdef]
    show rest.wp P _ _ w2
    have hR3 : Rel ⟨w, M, blocksOf g [], [⟨.fn (.func fc) vs.toArray, #[]⟩]⟩ (σ1'.app (some t9) ⟨.clo fc cs, []⟩) g2 M2 { b2 with defers := [⟨.fn (.func fc) vs.toArray, #[]⟩] } w2 :=
      ⟨hR2.size, rfl, hR2.slots, hR2.objs, hR2.apart, hR2.offM, hR2.sat, hR2.M0, hR2.Mnew, hR2.size0, hR2.same, hR2.own0, hR2.os, hR2.tape, hR2.output⟩
    have hG3 : GOKE env ⟨w, M, blocksOf g [], [⟨.fn (.func fc) vs.toArray, #[]⟩]⟩ M2 := ⟨(hG1.mono hM2).1, hG.2⟩
    refine wp_mono (VC.to hE hm rest h1 (by rw [app_objs_length]; exact hl1) _ g2 M2 _ w2 hR3 hG3) fun e b4 w4 ⟨σ4, g4, M4, hq, hR4, hM4, hA4, hl4⟩ => ?_
    obtain ⟨u, u', cargs, cobjs, ids, objs', hmode, hset, hAD, f1, f2, f3, f4, f5, f6, f7, hpk⟩ := hq
    have hG4 := hG3.mono hM4
    have hvV4 : ∀ i, i < cs.length → V g4 σ4.dom M4 (cs.getD i .junk) (vs.getD i undef) := fun i hi => by
      obtain ⟨id, off, hc, hid⟩ := hcs (cs.getD i .junk) (by rw [getD_lt _ _ _ hi]; exact List.getElem_mem hi)
      have hv := hvV i hi
      rw [hc] at hv ⊢
      generalize vs.getD i undef = y at hv ⊢
      cases hv with
      | ref id off hd =>
        obtain ⟨⟨q1, _, _⟩, q2⟩ := hA4 id hid hd
        rw [← q1]
        exact .ref id off q2
    obtain ⟨gc, k1, k2, k3⟩ := call_frame (res := .junk) (objs' := objs') hR4 hG4 hl4 hvl hvV4 f1 f2 f3 f4 f5 f6 (fun id h => by cases h) f7
    have hcallsD := hAD w4 M4 gc vs k1 k2
    have hinv : (invoke (.fn (.func fc) vs.toArray) #[]).run P w4 = .ok (.enter fc vs.toArray) w4 := by
      have := hent vs.toArray w4
      simpa [invoke] using this
    have hds : b4.defers = [⟨.fn (.func fc) vs.toArray, #[]⟩] := hR4.defers
    have main : ∀ hu : u ≠ .run, Leaves P fn b4.tmps (fun e w' => ∃ v g' M', e = .returned v ∧ Rel ⟨w, M, blocksOf g [], []⟩ ⟨[res], []⟩ g' M' ⟨#[v], []⟩ w' ∧ ∀ id, hasObj [] id = true → g.agree g' id) b4.defers u w4 := fun hu => by
      rw [hds]
      refine leaves_cons hu hinv (hcallsD.mono ?_)
      rintro e u2 w5 ⟨v, g5, M5, rfl, rfl, hR5, hag5⟩
      obtain ⟨g6, hR6, _, _, _⟩ := k3 w5 v g5 M5 hR5 hag5
      show Leaves P fn b4.tmps _ [] (settle u2) w5
      rw [hset]
      cases hvs : ares env ⟨σ4.slots, setAll σ4.objs (callUpd (tau (ids ++ [])) (ids ++ []) 0 objs')⟩ fn.results.toList with
      | none => rw [hvs] at hpk; exact hpk.elim
      | some vs2 =>
        rw [hvs, PK_some] at hpk
        obtain ⟨v2, hrun, hV2⟩ := results_run (P := P) hR6 hE hvs
        refine ⟨v2, hrun, v2, ?_⟩
        have hR7 : Rel ⟨w, M, blocksOf g [], []⟩ ⟨[pack vs2], setAll σ4.objs (callUpd (tau (ids ++ [])) (ids ++ []) 0 objs')⟩ g6 M5 ⟨#[v2], []⟩ w5 := by
          refine ⟨rfl, rfl, fun i hi => ?_, hR6.objs, hR6.apart, hR6.offM, hR6.sat, hR6.M0, hR6.Mnew, hR6.size0, hR6.same, hR6.own0, hR6.os, hR6.tape, hR6.output⟩
          have hi0 : i = 0 := by simpa using hi
          subst hi0
          exact hV2
        obtain ⟨gk, Mk, hk⟩ := Rel.value1 (σ := ⟨σ4.slots, setAll σ4.objs (callUpd (tau (ids ++ [])) (ids ++ []) 0 objs')⟩) hR7 hpk
        exact ⟨gk, Mk, rfl, hk, fun id hid => by simp [hasObj] at hid⟩
    rcases hmode with ⟨he, rfl⟩ | ⟨x, rfl, rfl⟩
    · rcases he with rfl | rfl
      · exact main (by simp)
      · exact main (by simp)
    · exact main (by simp)
end Go.Abs
namespace Go.Abs
open Go
variable {P : Program} {env : Env} {pin : Nat} {σ σ' : St} {Q : Exit → St → Prop}
class SBC (b : Bool) (p q : outParam Prop) : Prop where
  h1 : b = true → p
  h2 : b = false → q
instance (priority := low) (b : Bool) : SBC b (b = true) (b = false) := ⟨id, id⟩
instance (p : Prop) [Decidable p] : SBC (decide p) p (¬ p) := ⟨fun h => by simpa using h, fun h => by simpa using h⟩
instance {α : Type} [BEq α] [LawfulBEq α] (a b : α) : SBC (a == b) (a = b) (a ≠ b) := ⟨fun h => by simpa using h, fun h => by simpa using h⟩
instance {α : Type} [BEq α] [LawfulBEq α] (a b : α) : SBC (a != b) (a ≠ b) (a = b) := ⟨fun h => by simpa using h, fun h => by simpa using h⟩
theorem SB.c {b : Bool} {p q : Prop} [SBC b p q] {A B : Prop} {t : Tg (A, B)} (h1 : p → A) (h2 : q → B) : SB b A B t := ⟨fun h => h1 (SBC.h1 h), fun h => h2 (SBC.h2 h)⟩
theorem REG.i {ops : Array Oper} {t : Tg ops} {tr : Tr} {B : Prop} (hB : B) (h : regT ops (anc ops) (pairAt tr) = true := by kernel_rfl) : REG ops t tr ∧ B := ⟨h, hB⟩
theorem REG.j {ops : Array Oper} {t : Tg ops} {tr : Tr} (h : regT ops (anc ops) (pairAt tr) = true := by kernel_rfl) : REG ops t tr := h
theorem PREG.i {ops : Array Oper} {t : Tg ops} {tr : Tr} {B : Prop} (hB : B) (h : (regT ops (anc ops) (pairAt tr) && lateOK ops tr.length && tr.all fun r => r.2.isEmpty) = true := by kernel_rfl) : PREG ops t tr ∧ B := ⟨h, hB⟩
theorem AndI {a b : Prop} (hb : b) (ha : a := by (intros; (try simp only [decide_eq_true_eq, decide_eq_false_iff_not, beq_iff_eq, bne_iff_ne, Bool.and_eq_true, Bool.or_eq_true] at *); omega)) : a ∧ b := ⟨ha, hb⟩
section
variable {K : KT} {t : Tg K} {p : Prop} {f : FuncId} {vals cargs : List AVal} {res : AVal} {d : Option Nat} {rest : List COp} {acc : Option Tr}
theorem CK.d0 (hent : ∀ vargs w, (callFunc f vargs).run P w = .ok (.enter f vargs) w) (hac : AC P env.gl f vals [] res [])
    (h : VL P env K t rest (accAdd acc ([], [])) (σ.app d ⟨cw p res, []⟩)) (hsc : inScopeL (hasObj []) vals = true := by rfl) (hres : inScope (hasObj []) res = true := by rfl) : CK P env K t p f vals d rest acc σ :=
  CK.cp hent (fun _ => hac) hsc hres h
theorem CK.dx {A : List AVal} {O vobjs : List (Option AObj)} {objs' : List (Option AObj)} (ids news : List Nat) (hent : ∀ vargs w, (callFunc f vargs).run P w = .ok (.enter f vargs) w)
    (hac : AC P env.gl f A vobjs res objs')
    (h : VL P env K t rest (accAdd acc (ids ++ news, (callUpd (tau (ids ++ news)) (ids ++ news) 0 objs').map Prod.fst)) (σ.app d ⟨ren (tau (ids ++ news)) res, callUpd (tau (ids ++ news)) (ids ++ news) 0 objs'⟩))
    (hobjs : ids.map σ.obj = O := by rfl)
    (hA : renL (tau (ids ++ news)) A = vals := by rfl) (hO : renOs (tau (ids ++ news)) vobjs = O := by rfl) (hsA : inScopeL (hasObj vobjs) A = true := by rfl) (hsO : allS (hasObj vobjs) vobjs = true := by rfl)
    (hn : ((ids ++ news).Nodup ∧ ∀ id ∈ ids ++ news, id < env.nobj) := by decide) (hf : freshB σ news = true := by rfl) (hl : objs'.length ≤ (ids ++ news).length := by simp) : CK P env K t True f vals d rest acc σ :=
  CK.co ids news hent hac hobjs hA hO hsA hsO hn hf hl h
theorem CK.dp {A : List AVal} {O vobjs : List (Option AObj)} {objs' : List (Option AObj)} {x : Value} (ids news : List Nat) (hent : ∀ vargs w, (callFunc f vargs).run P w = .ok (.enter f vargs) w)
    (hac : AP P env.gl f A vobjs x objs')
    (h : K acc (some x) ⟨σ.slots, setAll σ.objs (callUpd (tau (ids ++ news)) (ids ++ news) 0 objs')⟩)
    (hobjs : ids.map σ.obj = O := by rfl)
    (hA : renL (tau (ids ++ news)) A = vals := by rfl) (hO : renOs (tau (ids ++ news)) vobjs = O := by rfl) (hsA : inScopeL (hasObj vobjs) A = true := by rfl) (hsO : allS (hasObj vobjs) vobjs = true := by rfl)
    (hn : ((ids ++ news).Nodup ∧ ∀ id ∈ ids ++ news, id < env.nobj) := by decide) (hf : freshB σ news = true := by rfl) (hl : objs'.length ≤ (ids ++ news).length := by simp) : CK P env K t True f vals d rest acc σ :=
  CK.po ids news hent hac hobjs hA hO hsA hsO hn hf hl h
theorem CK.dq {A : List AVal} {O vobjs : List (Option AObj)} (ids : List Nat) (hent : ∀ vargs w, (callFunc f vargs).run P w = .ok (.enter f vargs) w)
    (hac : p → AC P env.gl f A vobjs res vobjs)
    (h : VL P env K t rest none (σ.app d ⟨cw p res, []⟩))
    (hobjs : ids.map σ.obj = O := by rfl)
    (hA : renL (tau ids) A = vals := by rfl) (hO : renOs (tau ids) vobjs = O := by rfl) (hsA : inScopeL (hasObj vobjs) A = true := by rfl) (hsO : allS (hasObj vobjs) vobjs = true := by rfl)
    (hn : (ids.Nodup ∧ ∀ id ∈ ids, id < env.nobj) := by decide) (hl : vobjs.length ≤ ids.length := by simp) (hr : ren (tau ids) res = res := by rfl) (hs : (callUpd (tau ids) ids 0 vobjs).foldl (fun l q => l.set q.1 (some q.2)) σ.objs = σ.objs := by rfl) : CK P env K t p f vals d rest none σ :=
  CK.cpo ids hent hac hobjs hA hO hsA hsO hn hl hr hs h
end
theorem wkS_nil (τ : Nat → Nat) (n : Nat → Bool) : wkSlots τ n [] [] = True := by simp [wkSlots]
theorem wkS_cons (τ : Nat → Nat) (n : Nat → Bool) (a b : AVal) (r s : List AVal) : wkSlots τ n (a :: r) (b :: s) = ((b = .junk ∨ (a = ren τ b ∧ inScope n b = true)) ∧ wkSlots τ n r s) := by simp [wkSlots]
theorem wkO_nil (τ : Nat → Nat) (n : Nat → Bool) (σ : St) (k : Nat) : wkObjs τ n σ k [] = True := by simp [wkObjs]
theorem wkO_none (τ : Nat → Nat) (n : Nat → Bool) (σ : St) (k : Nat) (r : List (Option AObj)) : wkObjs τ n σ k (none :: r) = wkObjs τ n σ (k + 1) r := by simp [wkObjs]
theorem wkO_dead (τ : Nat → Nat) (n : Nat → Bool) (σ : St) (k : Nat) (r : List (Option AObj)) : wkObjs τ n σ k (some .dead :: r) = wkObjs τ n σ (k + 1) r := by simp [wkObjs]
theorem wkO_cells (τ : Nat → Nat) (n : Nat → Bool) (σ : St) (k : Nat) (cs : List AVal) (r : List (Option AObj)) : wkObjs τ n σ k (some (.cells cs) :: r) = ((σ.obj (τ k) = some (.cells (renL τ cs)) ∧ inScopeL n cs = true) ∧ wkObjs τ n σ (k + 1) r) := by simp [wkObjs, renO, inScopeO]
theorem wkO_row (τ : Nat → Nat) (n : Nat → Bool) (σ : St) (k : Nat) (sz : Nat) (xs : List (List PVal)) (r : List (Option AObj)) : wkObjs τ n σ k (some (.row sz xs) :: r) = (σ.obj (τ k) = some (.row sz xs) ∧ wkObjs τ n σ (k + 1) r) := by simp [wkObjs, renO, inScopeO]
theorem wkO_map (τ : Nat → Nat) (n : Nat → Bool) (σ : St) (k : Nat) (kd : Kd) (es : List (PVal × Bool × List PVal)) (r : List (Option AObj)) : wkObjs τ n σ k (some (.map kd es) :: r) = (σ.obj (τ k) = some (.map kd es) ∧ wkObjs τ n σ (k + 1) r) := by simp [wkObjs, renO, inScopeO]
theorem sc_1 (n : Nat → Bool) (i o : Nat) : inScope n (.ref i o) = n i := by simp [inScope]
theorem sc_2 (n : Nat → Bool) (i o : Nat) : inScope n (.row i o) = n i := by simp [inScope]
theorem sc_3 (n : Nat → Bool) (i a b c : Nat) : inScope n (.eref i a b c) = n i := by simp [inScope]
theorem sc_4 (n : Nat → Bool) (i : Nat) : inScope n (.map i) = n i := by simp [inScope]
theorem sc_5 (n : Nat → Bool) (cs : List AVal) : inScope n (.agg cs) = inScopeL n cs := by simp [inScope]
theorem sc_6 (n : Nat → Bool) (cs : List AVal) : inScope n (.tup cs) = inScopeL n cs := by simp [inScope]
theorem sc_7 (n : Nat → Bool) (f : Nat) (cs : List AVal) : inScope n (.clo f cs) = inScopeL n cs := by simp [inScope]
theorem sc_8 (n : Nat → Bool) (p : PVal) : inScope n (.pv p) = true := by simp [inScope]
theorem sc_9 (n : Nat → Bool) : inScope n .snil = true := by simp [inScope]
theorem sc_a (n : Nat → Bool) : inScope n .junk = true := by simp [inScope]
theorem scL_n (n : Nat → Bool) : inScopeL n [] = true := by simp [inScopeL]
theorem scL_c (n : Nat → Bool) (a : AVal) (r : List AVal) : inScopeL n (a :: r) = (inScope n a && inScopeL n r) := by simp [inScopeL]
theorem ren_eb (ι : Nat → Nat) (i a b c : Nat) : ren ι (.eref i a b c) = .eref (ι i) a b c := by simp [ren]
theorem hasObj_e (o : List (Option AObj)) (i : Nat) : hasObj o i = (o.getD i none).isSome := rfl
theorem obj_e (σ : St) (i : Nat) : σ.obj i = σ.objs.getD i none := rfl
theorem getD_e {α : Type} (l : List α) (i : Nat) (d : α) : l.getD i d = l[i]?.getD d := rfl
def kwf1 := And.intro @wkS_nil <| And.intro @wkS_cons <| And.intro @wkO_nil <| And.intro @wkO_none <| And.intro @wkO_dead <| And.intro @wkO_cells <| And.intro @wkO_row <| And.intro @wkO_map <| And.intro @scL_n <| @scL_c
def kwf2 := And.intro @sc_1 <| And.intro @sc_2 <| And.intro @sc_3 <| And.intro @sc_4 <| And.intro @sc_5 <| And.intro @sc_6 <| And.intro @sc_7 <| And.intro @sc_8 <| And.intro @sc_9 <| @sc_a
def kwf3 := And.intro @kz1 <| And.intro @ren_eb <| And.intro @hasObj_e <| And.intro @obj_e <| And.intro @getD_e <| And.intro @renO_e1 <| And.intro @renO_e2 <| @renO_e3
def kwf := And.intro @kwf1 <| And.intro @kwf2 @kwf3
theorem tau_e2 (l : List Nat) (k : Nat) : tau l k = l[k]?.getD 0 := rfl
theorem slot_e (σ : St) (i : Nat) : σ.slot i = σ.slots[i]?.getD .junk := rfl
theorem pack_1 (v : AVal) : pack [v] = v := rfl
theorem pack_0 : pack [] = .tup [] := rfl
theorem pack_2 (a b : AVal) (r : List AVal) : pack (a :: b :: r) = .tup (a :: b :: r) := rfl
def kwt := And.intro @kwf @tau_e2
def kwr := And.intro @kwt <| And.intro @slot_e <| And.intro @pack_1 <| And.intro @pack_0 @pack_2
theorem WFn (hs : wkSlots id (hasObj σ'.objs) σ.slots σ'.slots := by simp [kwf]) (ho : wkObjs id (hasObj σ'.objs) σ 0 σ'.objs := by simp [kwf]) (hlen : σ'.objs.length = env.nobj := by rfl) (h1 : (σ'.objs.take pin).all Option.isSome = true := by simp) (h2 : pin ≤ σ'.objs.length := by simp) : Weak env pin σ σ' :=
  Weak.forget hlen (pinsF h1 h2) hs ho
theorem WFe (hs : wkSlots id (hasObj σ'.objs) σ.slots σ'.slots) (ho : wkObjs id (hasObj σ'.objs) σ 0 σ'.objs) (hlen : σ'.objs.length = env.nobj := by rfl) (h1 : (σ'.objs.take pin).all Option.isSome = true := by simp) (h2 : pin ≤ σ'.objs.length := by simp) : Weak env pin σ σ' :=
  Weak.forget hlen (pinsF h1 h2) hs ho
theorem WTe (τ : List Nat) (hs : wkSlots (tau τ) (hasObj σ'.objs) σ.slots σ'.slots) (ho : wkObjs (tau τ) (hasObj σ'.objs) σ 0 σ'.objs) (hlen : σ'.objs.length = env.nobj := by rfl) (hτ : τ.length = env.nobj := by rfl) (hnd : τ.Nodup := by decide) (hp : ∀ k, k < pin → tau τ k = k := by first | decide | (simp only [List.length_cons, List.length_nil]; decide)) (h1 : (σ'.objs.take pin).all Option.isSome = true := by simp) (h2 : pin ≤ σ'.objs.length := by simp) : Weak env pin σ σ' :=
  Weak.wk τ hlen hτ hnd (pinsT hp h1 h2) hs ho
theorem retQ.mk {n : Nat} {rs : List ResultVar} {res : AVal} {objs' : List (Option AObj)} {e : Exit} {vs : List AVal} (τ : List Nat) (h1 : wkSlots (tau τ) (hasObj objs') [pack vs] [res]) (h2 : wkObjs (tau τ) (hasObj objs') σ 0 objs') (hv : ares env σ rs = some vs := by rfl) (he : e = .ret ∨ e = .normal := by first | exact .inl rfl | exact .inr rfl)
    (hp : ∀ k, k < n → tau τ k = k := by first | decide | (simp only [List.length_cons, List.length_nil]; decide)) (hd : τ.Nodup := by decide) (hl : objs'.length ≤ τ.length := by simp) : retQ env n rs res objs' e σ := ⟨he, vs, τ, hv, h1, h2, hp, hd, hl⟩
theorem panQ.mk {n : Nat} {x : Value} {objs' : List (Option AObj)} {e : Exit} (τ : List Nat) (h2 : wkObjs (tau τ) (hasObj objs') σ 0 objs') (he : e = .panic (oneP x) := by rfl)
    (hp : ∀ k, k < n → tau τ k = k := by first | decide | (simp only [List.length_cons, List.length_nil]; decide)) (hd : τ.Nodup := by decide) (hl : objs'.length ≤ τ.length := by simp) : panQ n x objs' e σ := ⟨he, τ, h2, hp, hd, hl⟩
end Go.Abs
namespace Go.Abs
open Go
variable {P : Program} {env : Env} {pin : Nat} {σ : St} {Q : Exit → St → Prop}
theorem LW.loopS {ι : Type} {c : Code} {t : Tg (Code.loop c, Q)} (I : ι → St) (μ : ι → Nat) (i0 : ι) (h0 : Weak env pin σ (I i0))
    (round : ∀ i, SW P env pin c (I i) (thenQ (NX env pin I μ .mk (μ i)) Q)) : LW P env pin (.loop c) σ Q t :=
  SW.loop I μ i0 h0 round
end Go.Abs
namespace Go.Abs
open Go
abbrev Ext (w w' : World) : Prop := Go.RowKit.Below w.heap.size w w'
theorem Ext.refl (w : World) : Ext w w := Go.RowKit.Below.refl _ w
theorem ext_cell {w w' : World} (h : Ext w w') {b i : Nat} {u : Value} (hc : w.cell? ⟨b, i, none⟩ = some u) : w'.cell? ⟨b, i, none⟩ = some u := by
  have hb : b < w.heap.size := by
    unfold World.cell? at hc
    rcases Nat.lt_or_ge b w.heap.size with h' | h'
    · exact h'
    · simp [Array.getElem?_eq_none h'] at hc
  unfold World.cell? at hc ⊢
  simp only [h.block b hb] at *
  exact hc
theorem AC.ofCalls {P : Program} {gl : Nat → Option (List PVal)} {f : FuncId} {ps : List PVal} {res : AVal}
    (h : ∀ (w : World) (M : Mem) (vs : List Value), vs.length = ps.length → (∀ i, i < ps.length → Rd M (ps.getD i .nilptr) (vs.getD i undef)) → (∀ b i u, M b i = some u → w.cell? ⟨b, i, none⟩ = some u) →
      GOK ⟨fun _ => none, gl, fun _ => 0, 0⟩ M → (∀ b cs, gl b = some cs → cs ≠ [] → ∃ vals T l, w.heap[b]? = some (.cells vals T l) ∧ vals.size = cs.length) → Calls P f vs.toArray w fun e w' => ∃ v, e = .returned v ∧ (∀ g D M', V g D M' res v) ∧ Ext w w') :
    AC P gl f (ps.map .pv) [] res [] := by
  intro w M g vargs hR hG
  have hl : vargs.length = ps.length := by simpa using hR.size
  refine Calls.mono (h w M vargs hl (fun i hi => ?_) hR.sat hG.1 (fun b cs hb hne => (hG.2 b cs hb hne).2)) ?_
  · have := hR.slots i (by simpa using hi)
    have e1 : St.slot ⟨ps.map .pv, []⟩ i = .pv (ps.getD i .nilptr) := by simp [St.slot, List.getD, hi]
    rw [e1] at this
    have e2 : vargs.toArray.getD i undef = vargs.getD i undef := by simp [List.getD]
    rw [← e2]
    exact this.pv_inv
  · rintro e w' ⟨v, rfl, hv, hx⟩
    refine ⟨v, g, M, rfl, ⟨rfl, rfl, fun i hi => ?_, fun id o ho => by simp [St.obj] at ho, fun id id' o o' b ho => by simp [St.obj] at ho, fun id o b ho => by simp [St.obj] at ho, fun b i u hu => ext_cell hx (hR.sat b i u hu), Mem.le_refl _, fun _ _ _ _ => rfl, hx.size, fun b hb _ => hx.block b hb, fun id o b ho => by simp [St.obj] at ho, hx.os, hx.tape, hx.output⟩, fun id hid => by simp [hasObj] at hid⟩
    have hi0 : i = 0 := by simpa using hi
    subst hi0
    exact hv _ _ _
theorem V_tup2 {g : Gh} {D : Nat → Prop} {M : Mem} {a b : AVal} {x y : Value} (h1 : V g D M a x) (h2 : V g D M b y) : V g D M (.tup [a, b]) (.tuple #[x, y]) :=
  .tup [a, b] [x, y] rfl (fun i hi => by
    match i, hi with
    | 0, _ => exact h1
    | 1, _ => exact h2)
end Go.Abs
namespace Go.Abs
open Go
structure VarD where
  name : List UInt8
  size : Int
  init : Int
def encVar (v : VarD) : List PVal := [.str v.name, .int .i64 v.size, .int .i64 v.init]
inductive Ex where
  | mk (op value : Int) (name : List UInt8) (slot size : Int) (args : List Ex)
def Ex.op : Ex → Int | .mk a _ _ _ _ _ => a
def Ex.value : Ex → Int | .mk _ a _ _ _ _ => a
def Ex.name : Ex → List UInt8 | .mk _ _ a _ _ _ => a
def Ex.slot : Ex → Int | .mk _ _ _ a _ _ => a
def Ex.size : Ex → Int | .mk _ _ _ _ a _ => a
def Ex.args : Ex → List Ex | .mk _ _ _ _ _ a => a
mutual
def encEx : Ex → List PVal
  | .mk op value name slot size args => [.int .i64 op, .int .i64 value, .str name, .int .i64 slot, .int .i64 size, .slice (encExs args)]
def encExs : List Ex → List (List PVal)
  | [] => []
  | e :: r => encEx e :: encExs r
end
theorem encExs_map : ∀ l : List Ex, encExs l = l.map encEx
  | [] => by simp [encExs]
  | e :: r => by simp [encExs, encExs_map r]
theorem encEx_eq (e : Ex) : encEx e = [.int .i64 e.op, .int .i64 e.value, .str e.name, .int .i64 e.slot, .int .i64 e.size, .slice (e.args.map encEx)] := by
  cases e; simp [encEx, encExs_map, Ex.op, Ex.value, Ex.name, Ex.slot, Ex.size, Ex.args]
theorem encEx_length (e : Ex) : (encEx e).length = 6 := by rw [encEx_eq]; rfl
inductive Sm where
  | mk (kind : Int) (name : List UInt8) (slot size : Int) (place value : Ex) (body els : List Sm)
def Sm.kind : Sm → Int | .mk a _ _ _ _ _ _ _ => a
def Sm.name : Sm → List UInt8 | .mk _ a _ _ _ _ _ _ => a
def Sm.slot : Sm → Int | .mk _ _ a _ _ _ _ _ => a
def Sm.size : Sm → Int | .mk _ _ _ a _ _ _ _ => a
def Sm.place : Sm → Ex | .mk _ _ _ _ a _ _ _ => a
def Sm.value : Sm → Ex | .mk _ _ _ _ _ a _ _ => a
def Sm.body : Sm → List Sm | .mk _ _ _ _ _ _ a _ => a
def Sm.els : Sm → List Sm | .mk _ _ _ _ _ _ _ a => a
mutual
def encSm : Sm → List PVal
  | .mk kind name slot size place value body els => [.int .i64 kind, .str name, .int .i64 slot, .int .i64 size] ++ encEx place ++ encEx value ++ [.slice (encSms body), .slice (encSms els)]
def encSms : List Sm → List (List PVal)
  | [] => []
  | e :: r => encSm e :: encSms r
end
theorem encSms_map : ∀ l : List Sm, encSms l = l.map encSm
  | [] => by simp [encSms]
  | e :: r => by simp [encSms, encSms_map r]
theorem encSm_eq (s : Sm) : encSm s = [.int .i64 s.kind, .str s.name, .int .i64 s.slot, .int .i64 s.size,
    .int .i64 s.place.op, .int .i64 s.place.value, .str s.place.name, .int .i64 s.place.slot, .int .i64 s.place.size, .slice (s.place.args.map encEx),
    .int .i64 s.value.op, .int .i64 s.value.value, .str s.value.name, .int .i64 s.value.slot, .int .i64 s.value.size, .slice (s.value.args.map encEx),
    .slice (s.body.map encSm), .slice (s.els.map encSm)] := by
  cases s; simp [encSm, encSms_map, encEx_eq, Sm.kind, Sm.name, Sm.slot, Sm.size, Sm.place, Sm.value, Sm.body, Sm.els]
theorem encSm_length (s : Sm) : (encSm s).length = 18 := by rw [encSm_eq]; rfl
abbrev mx := imax
mutual
def szE : Ex → Nat
  | .mk _ _ _ _ _ args => 1 + szEs args
def szEs : List Ex → Nat
  | [] => 0
  | e :: r => szE e + szEs r
end
theorem szE_eq (e : Ex) : szE e = 1 + szEs e.args := by cases e; rfl
theorem szE_pos (e : Ex) : 1 ≤ szE e := by rw [szE_eq]; omega
theorem szEs_len : ∀ l : List Ex, l.length ≤ szEs l
  | [] => by simp
  | e :: r => by have := szEs_len r; have := szE_pos e; simp only [szEs, List.length_cons]; omega
theorem szEs_mem : ∀ (l : List Ex) (e : Ex), e ∈ l → szE e ≤ szEs l
  | [], _, h => by cases h
  | x :: r, e, h => by
    simp only [szEs]
    rcases List.mem_cons.1 h with rfl | h
    · omega
    · have := szEs_mem r e h; omega
mutual
def szS : Sm → Nat
  | .mk _ _ _ _ place value body els => 1 + szE place + szE value + szSs body + szSs els
def szSs : List Sm → Nat
  | [] => 0
  | e :: r => szS e + szSs r
end
theorem szS_eq (s : Sm) : szS s = 1 + szE s.place + szE s.value + szSs s.body + szSs s.els := by cases s; rfl
theorem szS_pos (s : Sm) : 1 ≤ szS s := by rw [szS_eq]; omega
theorem szSs_len : ∀ l : List Sm, l.length ≤ szSs l
  | [] => by simp
  | e :: r => by have := szSs_len r; have := szS_pos e; simp only [szSs, List.length_cons]; omega
theorem szSs_mem : ∀ (l : List Sm) (e : Sm), e ∈ l → szS e ≤ szSs l
  | [], _, h => by cases h
  | x :: r, e, h => by
    simp only [szSs]
    rcases List.mem_cons.1 h with rfl | h
    · omega
    · have := szSs_mem r e h; omega
mutual
def depE : Ex → Int
  | .mk _ _ _ _ _ args => 1 + depEs 0 args
def depEs : Int → List Ex → Int
  | d, [] => d
  | d, e :: r => depEs (mx d (depE e)) r
end
theorem depE_eq (e : Ex) : depE e = 1 + depEs 0 e.args := by cases e; rfl
mutual
theorem depE_pos : ∀ e : Ex, 1 ≤ depE e
  | .mk _ _ _ _ _ args => by simp only [depE]; have := depEs_le 0 args; omega
theorem depEs_le : ∀ (d : Int) (l : List Ex), d ≤ depEs d l
  | d, [] => by simp [depEs]
  | d, e :: r => by
    have h1 := depEs_le (mx d (depE e)) r
    have h2 : d ≤ mx d (depE e) := by unfold mx imax; split <;> omega
    simp only [depEs]; omega
end
theorem depEs_snoc (x : Ex) : ∀ (l : List Ex) (d : Int), depEs d (l ++ [x]) = mx (depEs d l) (depE x)
  | [], d => by simp [depEs]
  | e :: r, d => by simp only [List.cons_append, depEs]; exact depEs_snoc x r _
mutual
def depS : Sm → Int
  | .mk _ _ _ _ place value body els => 1 + mx (mx (mx (depE place) (depE value)) (depSs 0 body)) (depSs 0 els)
def depSs : Int → List Sm → Int
  | d, [] => d
  | d, s :: r => depSs (mx d (depS s)) r
end
theorem depS_eq (s : Sm) : depS s = 1 + mx (mx (mx (depE s.place) (depE s.value)) (depSs 0 s.body)) (depSs 0 s.els) := by cases s; rfl
theorem depSs_snoc (x : Sm) : ∀ (l : List Sm) (d : Int), depSs d (l ++ [x]) = mx (depSs d l) (depS x)
  | [], d => by simp [depSs]
  | e :: r, d => by simp only [List.cons_append, depSs]; exact depSs_snoc x r _
theorem mx_l (x y : Int) : x ≤ mx x y := by unfold mx imax; split <;> omega
theorem depS_pos (s : Sm) : 1 ≤ depS s := by
  rw [depS_eq]
  have h1 := depE_pos s.place
  have h2 := mx_l (depE s.place) (depE s.value)
  have h3 := mx_l (mx (depE s.place) (depE s.value)) (depSs 0 s.body)
  have h4 := mx_l (mx (mx (depE s.place) (depE s.value)) (depSs 0 s.body)) (depSs 0 s.els)
  omega
mutual
theorem depE_sz : ∀ e : Ex, depE e ≤ szE e
  | .mk _ _ _ _ _ args => by simp only [depE, szE]; have := depEs_sz 0 args; unfold mx imax at this; split at this <;> omega
theorem depEs_sz : ∀ (d : Int) (l : List Ex), depEs d l ≤ mx d (szEs l)
  | d, [] => by simp only [depEs, szEs]; exact mx_l _ _
  | d, e :: r => by
    have h1 := depEs_sz (mx d (depE e)) r
    have h2 := depE_sz e
    simp only [depEs, szEs]
    unfold mx imax at *
    split at h1 <;> split at h1 <;> split <;> omega
end
mutual
theorem depS_sz : ∀ s : Sm, depS s ≤ szS s
  | .mk _ _ _ _ place value body els => by
    have h1 := depE_sz place
    have h2 := depE_sz value
    have h3 := depSs_sz 0 body
    have h4 := depSs_sz 0 els
    have p1 := szE_pos place
    simp only [depS, szS]
    generalize depE place = a at *
    generalize depE value = b at *
    generalize depSs 0 body = c at *
    generalize depSs 0 els = d at *
    unfold mx imax at *
    split at h3 <;> split at h4 <;> (repeat' split) <;> omega
theorem depSs_sz : ∀ (d : Int) (l : List Sm), depSs d l ≤ mx d (szSs l)
  | d, [] => by simp only [depSs, szSs]; exact mx_l _ _
  | d, e :: r => by
    have h1 := depSs_sz (mx d (depS e)) r
    have h2 := depS_sz e
    simp only [depSs, szSs]
    generalize depSs (mx d (depS e)) r = q at *
    unfold mx imax at *
    split at h1 <;> split at h1 <;> split <;> omega
end
end Go.Abs
namespace Go.Abs
open Go
def letterF (n : Int) : Bool := (decide (n ≥ 97) && decide (n ≤ 122)) || (decide (n ≥ 65) && decide (n ≤ 90)) || n == 95
def digitF (n : Int) : Bool := decide (n ≥ 48) && decide (n ≤ 57)
def isW (c : UInt8) : Bool := letterF c.toNat || digitF c.toNat
def wordF (s : List UInt8) (a : Nat) : Nat := a + ((s.drop a).takeWhile isW).length
def resF (s : List UInt8) : Bool := s == [118, 97, 114] || s == [97, 114, 114, 97, 121] || s == [111, 110] || s == [115, 116, 97, 114, 116] || s == [109, 101, 115, 115, 97, 103, 101] || s == [116, 105, 99, 107] || s == [105, 110, 112, 117, 116] || s == [105, 102] || s == [101, 108, 115, 101] || s == [119, 104, 105, 108, 101] || s == [115, 101, 110, 100] || s == [111, 117, 116, 112, 117, 116] || s == [115, 101, 108, 102] || s == [112, 114, 111, 99, 115] || s == [102, 114, 111, 109] || s == [118, 97, 108, 117, 101]
def validF (s : List UInt8) : Bool := !(s == [] || decide ((s.length : Int) > 16) || !letterF (s.getD 0 0).toNat) && (((wordF s 0 : Nat) : Int) == (s.length : Int) && !resF s)
structure PgD where
  vars : List VarD
  start : List Sm
  message : List Sm
  tick : List Sm
  input : List Sm
def pgA (p : PgD) : AVal := .agg [.pv (.slice (p.vars.map encVar)), .pv (.slice (p.start.map encSm)), .pv (.slice (p.message.map encSm)), .pv (.slice (p.tick.map encSm)), .pv (.slice (p.input.map encSm))]
def szP (p : PgD) : Nat := szSs p.start + szSs p.message + szSs p.tick + szSs p.input + p.vars.length
def depP (p : PgD) : Int := mx (mx (mx (depSs 0 p.start) (depSs 0 p.message)) (depSs 0 p.tick)) (depSs 0 p.input)
def goodVarF (v : VarD) : Bool := if !validF v.name || decide (v.size < 0) then false else if v.size != 0 && v.init != 0 then false else v.init != -9223372036854775808
def checkF (g : List Sm → Bool) (p : PgD) : Int :=
  if depP p > 16 then 6 else if p.vars.any (fun v => !goodVarF v) then 7 else if !g p.start || !g p.message || !g p.tick || !g p.input then 7 else 0
theorem validF_long (s : List UInt8) (h : 16 < s.length) : validF s = false := by
  have : (s.length : Int) > 16 := by omega
  simp [validF, this]
def arityF (op : Int) : Int := if op < 1 ∨ op > 22 then -1 else if op ≥ 10 then 2 else if op = 3 ∨ op = 8 ∨ op = 9 then 1 else 0
def goodNameF (name : List UInt8) (m : Bool) : Bool := if m then validF name else name == []
def zeroEF (e : Ex) : Bool := e.op == 0 && e.value == 0 && e.name == [] && e.slot == 0 && e.size == 0 && e.args.length == 0
def headEF (op value : Int) (name : List UInt8) (slot size : Int) (n : Nat) : Bool :=
  arityF op == (n : Int) && slot == 0 && size == 0 && !(decide (value < 0) || (value != 0 && op != 1)) && goodNameF name (op == 2 || op == 3)
mutual
def goodEF : Ex → Bool
  | .mk op value name slot size args => headEF op value name slot size args.length && goodEFs args
def goodEFs : List Ex → Bool
  | [] => true
  | e :: r => goodEF e && goodEFs r
end
theorem goodEF_eq (e : Ex) : goodEF e = (headEF e.op e.value e.name e.slot e.size e.args.length && goodEFs e.args) := by cases e; simp [goodEF, Ex.op, Ex.value, Ex.name, Ex.slot, Ex.size, Ex.args]
def headSF (kind : Int) (name : List UInt8) (slot size : Int) (place : Ex) (nb ne : Nat) : Bool :=
  decide (kind ≥ 1) && decide (kind ≤ 6) && slot == 0 && size == 0 && goodNameF name (kind == 1 || kind == 2) &&
  (if kind == 2 || kind == 5 then goodEF place else zeroEF place) && !(decide (nb > 0) && kind != 3 && kind != 4) && !(decide (ne > 0) && kind != 3)
mutual
def goodSF : Sm → Bool
  | .mk kind name slot size place value body els => headSF kind name slot size place body.length els.length && (goodEF value && goodSFs body && goodSFs els)
def goodSFs : List Sm → Bool
  | [] => true
  | e :: r => goodSF e && goodSFs r
end
theorem goodSF_eq (s : Sm) : goodSF s = (headSF s.kind s.name s.slot s.size s.place s.body.length s.els.length && (goodEF s.value && goodSFs s.body && goodSFs s.els)) := by cases s; simp [goodSF, Sm.kind, Sm.name, Sm.slot, Sm.size, Sm.place, Sm.value, Sm.body, Sm.els]
theorem beq_natCast (a b : Nat) : ((a : Int) == (b : Int)) = (a == b) := Bool.eq_iff_iff.mpr (by simp only [beq_iff_eq]; omega)
theorem beqF {a b : Int} (h : ¬ a = b) : (a == b) = false := by simpa using h
end Go.Abs
namespace Go.Abs
open Go
structure TkD where
  kind : Int
  text : List UInt8
  value : Int
  pos : Int
def encTk (t : TkD) : List PVal := [.int .i64 t.kind, .str t.text, .int .i64 t.value, .int .i64 t.pos]
def tk0 : TkD := ⟨0, [], 0, 0⟩
def runF (p : UInt8 → Bool) (s : List UInt8) (a : Nat) : Nat := a + ((s.drop a).takeWhile p).length
theorem runF_end (p : UInt8 → Bool) (s : List UInt8) (a : Nat) (h : s.length ≤ a) : runF p s a = a := by
  simp [runF, List.drop_eq_nil_of_le h]
theorem runF_step (p : UInt8 → Bool) (s : List UInt8) (a : Nat) (h : a < s.length) : runF p s a = if p (s.getD a 0) then runF p s (a + 1) else a := by
  unfold runF
  rw [List.drop_eq_getElem_cons h, List.takeWhile_cons]
  have : s.getD a 0 = s[a] := by simp [List.getD, h]
  rw [this]
  split
  · simp; omega
  · simp
theorem runF_ge (p : UInt8 → Bool) (s : List UInt8) (a : Nat) : a ≤ runF p s a := by unfold runF; omega
theorem runF_le (p : UInt8 → Bool) (s : List UInt8) (a : Nat) (h : a ≤ s.length) : runF p s a ≤ s.length := by
  unfold runF
  have h1 : ((s.drop a).takeWhile p).length ≤ (s.drop a).length := (List.takeWhile_sublist p).length_le
  simp at h1
  omega
theorem wordF_run (s : List UInt8) (a : Nat) : wordF s a = runF isW s a := rfl
def isD (c : UInt8) : Bool := digitF c.toNat
def isL (c : UInt8) : Bool := letterF c.toNat
def notLF (c : UInt8) : Bool := c != 10
def isB (c : UInt8) : Bool := c == 9 || c == 10 || c == 13 || c == 32
def cut (s : List UInt8) (a b : Nat) : List UInt8 := (s.take b).drop a
def valA : List UInt8 → Nat → Nat
  | [], acc => acc
  | c :: r, acc => valA r (acc * 10 + (c.toNat - 48))
def valF (l : List UInt8) : Nat := valA l 0
theorem valA_ge : ∀ (l : List UInt8) (acc : Nat), acc ≤ valA l acc
  | [], acc => by rw [valA]; omega
  | c :: r, acc => by have := valA_ge r (acc * 10 + (c.toNat - 48)); rw [valA]; omega
theorem digit_le {c : UInt8} (h : isD c = true) : 48 ≤ c.toNat ∧ c.toNat ≤ 57 := by
  unfold isD digitF at h
  rw [Bool.and_eq_true, decide_eq_true_eq, decide_eq_true_eq] at h
  omega
theorem valA_cons (acc : Nat) (c : UInt8) (r : List UInt8) : valA (c :: r) acc = valA r (acc * 10 + (c.toNat - 48)) := by rw [valA]
theorem parseUintM_eq (M : Nat) (hM : M < 18446744073709551620) : ∀ (l : List UInt8) (acc : Nat), (∀ c ∈ l, isD c = true) → acc ≤ M → Lib.parseUintM M acc l = if valA l acc ≤ M then .ok (valA l acc) else .range
  | [], acc, _, h => by rw [Lib.parseUintM, valA, if_pos h]
  | c :: r, acc, hd, h => by
    have hc := digit_le (hd c List.mem_cons_self)
    have hge := valA_ge r (acc * 10 + (c.toNat - 48))
    rw [Lib.parseUintM, valA_cons, if_pos hc]
    have ih := parseUintM_eq M hM r (acc * 10 + (c.toNat - 48)) (fun x hx => hd x (List.mem_cons_of_mem _ hx))
    generalize hq : acc * 10 + (c.toNat - 48) = q at *
    by_cases h1 : 1844674407370955162 ≤ acc
    · rw [if_pos h1, if_neg (by omega)]
    · rw [if_neg h1]
      by_cases h2 : M < q
      · rw [if_pos h2, if_neg (by omega)]
      · rw [if_neg h2]
        exact ih (by omega)
theorem parseInt_eq (l : List UInt8) (h0 : l ≠ []) (hd : ∀ c ∈ l, isD c = true) : Lib.parseIntB 64 l = if valF l < 9223372036854775808 then .ok (valF l : Int) else .range := by
  cases l with
  | nil => exact absurd rfl h0
  | cons c r =>
    have hc := digit_le (hd c (by simp))
    have e1 : ¬ (c.toNat = 43 ∨ c.toNat = 45) := by omega
    have e2 : ¬ c.toNat = 45 := by omega
    have hp := parseUintM_eq 18446744073709551615 (by omega) (c :: r) 0 hd (by omega)
    simp only [Lib.parseIntB, if_neg e1, Lib.parseUintB]
    rw [if_neg (by simp), show (2 ^ 64 - 1 : Nat) = 18446744073709551615 from rfl, hp]
    have hv0 : valA (c :: r) 0 = valF (c :: r) := rfl
    rw [hv0]
    generalize valF (c :: r) = v
    by_cases h1 : v ≤ 18446744073709551615
    · rw [if_pos h1]
      by_cases h2 : v < 9223372036854775808
      · rw [if_pos h2]
        simp only [e2]
        rw [if_neg (by simp; omega), if_neg (by simp)]
        simp
      · rw [if_neg h2]
        simp only [e2]
        rw [if_pos (by simp; omega)]
    · rw [if_neg h1, if_neg (by omega)]
def signF (c n : Int) : Int :=
  if c == 61 || c == 33 || c == 60 || c == 62 then (if n == 61 then 2 else 1)
  else if c == 40 || c == 41 || c == 123 || c == 125 || c == 91 || c == 93 || c == 44 || c == 59 || c == 43 || c == 45 || c == 42 || c == 47 || c == 37 then 1
  else if (c == 38 || c == 124) && n == c then 2 else 0
def nextB (s : List UInt8) (a : Nat) : Int := if a + 1 < s.length then ((s.getD (a + 1) 0).toNat : Int) else 0
def numEnd (s : List UInt8) (a : Nat) : Nat := if s.getD a 0 = 48 then a + 1 else runF isD s (a + 1)
def numF (s : List UInt8) (a : Nat) : TkD × Int × Int :=
  if runF isW s (numEnd s a) > numEnd s a then (tk0, 0, 1)
  else if valF (cut s a (numEnd s a)) < 9223372036854775808 then (⟨2, [], valF (cut s a (numEnd s a)), a⟩, numEnd s a, 0) else (tk0, 0, 3)
def oneF (s : List UInt8) (a : Nat) : TkD × Int × Int :=
  if isL (s.getD a 0) then (if runF isW s a - a > 16 then (tk0, 0, 5) else (⟨1, cut s a (runF isW s a), 0, a⟩, runF isW s a, 0))
  else if isD (s.getD a 0) then numF s a
  else if signF (s.getD a 0).toNat (nextB s a) = 0 then (tk0, 0, 1)
  else (⟨3, cut s a (a + (signF (s.getD a 0).toNat (nextB s a)).toNat), 0, a⟩, a + signF (s.getD a 0).toNat (nextB s a), 0)
theorem signF_le (c n : Int) : 0 ≤ signF c n ∧ signF c n ≤ 2 := by
  unfold signF
  repeat' split
  all_goals omega
theorem numEnd_le (s : List UInt8) (a : Nat) (h : a < s.length) : a < numEnd s a ∧ numEnd s a ≤ s.length := by
  unfold numEnd
  split
  · omega
  · have := runF_ge isD s (a + 1); have := runF_le isD s (a + 1) (by omega); omega
theorem sign_two {c n : Int} (h : signF c n = 2) : n = 61 ∨ n = 38 ∨ n = 124 := by
  unfold signF at h
  grind
theorem oneF_end (s : List UInt8) (a : Nat) (h : a < s.length) (h0 : (oneF s a).2.2 = 0) : ∃ e : Nat, (oneF s a).2.1 = e ∧ a < e ∧ e ≤ s.length := by
  unfold oneF at h0 ⊢
  split
  · rename_i hl
    rw [if_pos hl] at h0
    have hW : isW (s.getD a 0) = true := by simp [isW]; exact .inl hl
    have h1 := runF_step isW s a h
    rw [hW, if_pos rfl] at h1
    have h2 := runF_ge isW s (a + 1)
    have h3 := runF_le isW s a (by omega)
    split
    · rename_i h16; rw [if_pos h16] at h0; simp at h0
    · exact ⟨_, rfl, by omega, h3⟩
  · rename_i hl
    rw [if_neg hl] at h0
    split
    · rename_i hd
      rw [if_pos hd] at h0
      unfold numF at h0 ⊢
      have h1 := numEnd_le s a h
      split
      · rename_i hw; rw [if_pos hw] at h0; simp at h0
      · rename_i hw
        rw [if_neg hw] at h0
        split
        · exact ⟨_, rfl, h1.1, h1.2⟩
        · rename_i hv; rw [if_neg hv] at h0; simp at h0
    · rename_i hd
      rw [if_neg hd] at h0
      split
      · rename_i hs; rw [if_pos hs] at h0; simp at h0
      · rename_i hs
        have h1 := signF_le (s.getD a 0).toNat (nextB s a)
        refine ⟨a + (signF (s.getD a 0).toNat (nextB s a)).toNat, by show (a : Int) + signF _ _ = _; omega, by omega, ?_⟩
        by_cases h2 : signF (s.getD a 0).toNat (nextB s a) = 2
        · have h3 := sign_two h2
          have : a + 1 < s.length := by
            by_cases h4 : a + 1 < s.length
            · exact h4
            · simp [nextB, h4] at h3
          omega
        · omega
def scanF (s : List UInt8) : Nat → Nat → List TkD → List TkD × Int × Int
  | 0, _, acc => (acc, 0, 0)
  | f + 1, a, acc =>
    if a < s.length then
      if isB (s.getD a 0) then scanF s f (a + 1) acc
      else if s.getD a 0 = 35 then scanF s f (runF notLF s a) acc
      else if (oneF s a).2.2 = 0 then scanF s f (oneF s a).2.1.toNat (acc ++ [(oneF s a).1])
      else ([], a, (oneF s a).2.2)
    else (acc, 0, 0)
def scan (s : List UInt8) : List TkD × Int × Int := if s.length > 4096 then ([], 0, 5) else scanF s (s.length + 1) 0 []
end Go.Abs
namespace Go.Abs
open Go
theorem indexByte_run : ∀ l : List UInt8, Lib.indexByte l 10 = if (l.takeWhile notLF).length = l.length then -1 else ((l.takeWhile notLF).length : Int)
  | [] => by simp [Lib.indexByte]
  | b :: l => by
    rw [Lib.indexByte, indexByte_run l, List.takeWhile_cons]
    have hle : (l.takeWhile notLF).length ≤ l.length := (List.takeWhile_sublist notLF).length_le
    by_cases h : b = 10
    · subst h
      simp [notLF]
    · have hb : (b == 10) = false := by simpa using h
      have hn : notLF b = true := by simp [notLF, h]
      rw [hb, hn, if_neg (by simp), if_pos rfl]
      simp only [List.length_cons]
      by_cases h2 : (l.takeWhile notLF).length = l.length
      · simp [h2]
      · have h3 : ¬ ((l.takeWhile notLF).length + 1 = l.length + 1) := by omega
        have h4 : ¬ (((l.takeWhile notLF).length : Int) = -1) := by omega
        simp [h2, h4]
theorem comment_eq (s : List UInt8) (a : Nat) (h : a ≤ s.length) : (if Lib.indexByte (s.drop a) 10 < 0 then (s.length : Int) else a + Lib.indexByte (s.drop a) 10) = runF notLF s a := by
  rw [indexByte_run]
  unfold runF
  have hl : (s.drop a).length = s.length - a := by simp
  by_cases h2 : ((s.drop a).takeWhile notLF).length = (s.drop a).length
  · rw [if_pos h2, if_pos (by omega), h2, hl]; omega
  · rw [if_neg h2, if_neg (by omega)]; omega
theorem cut_succ (s : List UInt8) (a k : Nat) (h : k < s.length) (ha : a ≤ k) : cut s a (k + 1) = cut s a k ++ [s.getD k 0] := by
  unfold cut
  rw [List.take_succ_eq_append_getElem h, List.drop_append_of_le_length (by simp; omega)]
  simp [List.getD, h]
theorem numEnd_exit (s : List UInt8) (a k : Nat) (hr1 : s.getD a 0 ≠ 48 → runF isD s k = runF isD s (a + 1)) (hr2 : s.getD a 0 = 48 → k = a + 1)
    (hc : ((((s.getD a 0).toNat : Nat) : Int) != 48 && decide ((k : Int) < s.length) && digitF ((s.getD k 0).toNat : Int)) = false) (h48 : ((((s.getD a 0).toNat : Nat) : Int) != 48) = true ↔ s.getD a 0 ≠ 48) : numEnd s a = k := by
  unfold numEnd
  by_cases h : s.getD a 0 = 48
  · rw [if_pos h, hr2 h]
  · rw [if_neg h, ← hr1 h]
    rw [h48.2 h, Bool.true_and] at hc
    by_cases hlt : k < s.length
    · rw [runF_step isD s k hlt]
      have h1 : decide ((k : Int) < s.length) = true := by simpa using (show (k : Int) < s.length by omega)
      rw [h1, Bool.true_and] at hc
      rw [show isD (s.getD k 0) = false from hc]
      simp
    · exact runF_end isD s k (by omega)
theorem cut_self (s : List UInt8) (a : Nat) : cut s a a = [] := by simp [cut]
theorem cut_ne (s : List UInt8) (a k : Nat) (h : a < k) (hk : k ≤ s.length) : cut s a k ≠ [] := by
  intro e
  have := congrArg List.length e
  simp [cut] at this
  omega
theorem cut_len (s : List UInt8) (a k : Nat) (hk : k ≤ s.length) : (cut s a k).length = k - a := by simp [cut]; omega
theorem u8_ne (c : UInt8) (n : Nat) (h : n < 256) : (((c.toNat : Int) != (n : Int)) = true) ↔ c ≠ UInt8.ofNat n := by
  rw [bne_iff_ne]
  constructor
  · intro h1 h2
    apply h1
    rw [h2]
    simp
    omega
  · intro h1 h2
    apply h1
    apply UInt8.toNat.inj
    simp
    omega
end Go.Abs
namespace Go.Abs
open Go
structure SI (s : List UInt8) where
  k : Nat
  acc : List TkD
  f : Nat
  hk : k ≤ s.length
  hf : s.length < k + f
  ha : acc.length ≤ k
  eq : scanF s f k acc = scanF s (s.length + 1) 0 []
variable {s : List UInt8} (i : SI s)
theorem SI.fpos (h : i.k < s.length) : ∃ f, i.f = f + 1 := ⟨i.f - 1, by have := i.hf; omega⟩
theorem SI.unf (h : i.k < s.length) : scanF s i.f i.k i.acc = (if isB (s.getD i.k 0) then scanF s (i.f - 1) (i.k + 1) i.acc
      else if s.getD i.k 0 = 35 then scanF s (i.f - 1) (runF notLF s i.k) i.acc
      else if (oneF s i.k).2.2 = 0 then scanF s (i.f - 1) (oneF s i.k).2.1.toNat (i.acc ++ [(oneF s i.k).1])
      else ([], i.k, (oneF s i.k).2.2)) := by
  obtain ⟨f, hf⟩ := i.fpos h
  rw [hf, scanF, if_pos h]
  rfl
def SI.blank (h : i.k < s.length) (hb : isB (s.getD i.k 0) = true) : SI s := ⟨i.k + 1, i.acc, i.f - 1, h, by have := i.hf; omega, by have := i.ha; omega, by
  have := i.unf h; rw [if_pos hb] at this; rw [← this]; exact i.eq⟩
theorem hash_gt (h : i.k < s.length) (hh : s.getD i.k 0 = 35) : i.k < runF notLF s i.k ∧ runF notLF s i.k ≤ s.length := by
  have h1 := runF_step notLF s i.k h
  have h2 : notLF (s.getD i.k 0) = true := by rw [hh]; rfl
  rw [h2, if_pos rfl] at h1
  have h3 := runF_ge notLF s (i.k + 1)
  exact ⟨by omega, runF_le notLF s i.k (by omega)⟩
def SI.hsh (h : i.k < s.length) (hh : s.getD i.k 0 = 35) : SI s := ⟨runF notLF s i.k, i.acc, i.f - 1, (hash_gt i h hh).2, by have := i.hf; have := hash_gt i h hh; omega, by have := i.ha; have := hash_gt i h hh; omega, by
  have := i.unf h
  have hb : ¬ (isB (s.getD i.k 0) = true) := by rw [hh]; decide
  rw [if_neg hb, if_pos hh] at this; rw [← this]; exact i.eq⟩
theorem tok_gt (h : i.k < s.length) (h0 : (oneF s i.k).2.2 = 0) : i.k < (oneF s i.k).2.1.toNat ∧ (oneF s i.k).2.1.toNat ≤ s.length ∧ (oneF s i.k).2.1 = (((oneF s i.k).2.1.toNat : Nat) : Int) := by
  obtain ⟨e, h1, h2, h3⟩ := oneF_end s i.k h h0
  rw [h1]
  exact ⟨by simpa using h2, by simpa using h3, by simp⟩
def SI.tok (h : i.k < s.length) (hb : ¬ (isB (s.getD i.k 0) = true)) (hh : ¬ s.getD i.k 0 = 35) (h0 : (oneF s i.k).2.2 = 0) : SI s :=
  ⟨(oneF s i.k).2.1.toNat, i.acc ++ [(oneF s i.k).1], i.f - 1, (tok_gt i h h0).2.1, by have := i.hf; have := tok_gt i h h0; omega, by have := i.ha; have := tok_gt i h h0; simp; omega, by
  have := i.unf h
  rw [if_neg hb, if_neg hh, if_pos h0] at this; rw [← this]; exact i.eq⟩
theorem SI.bad (h : i.k < s.length) (hb : ¬ (isB (s.getD i.k 0) = true)) (hh : ¬ s.getD i.k 0 = 35) (h0 : ¬ (oneF s i.k).2.2 = 0) : scanF s (s.length + 1) 0 [] = ([], (i.k : Int), (oneF s i.k).2.2) := by
  have := i.unf h
  rw [if_neg hb, if_neg hh, if_neg h0] at this; rw [← i.eq, this]
theorem SI.fin (h : ¬ i.k < s.length) : scanF s (s.length + 1) 0 [] = (i.acc, 0, 0) := by
  rw [← i.eq]
  cases hf : i.f with
  | zero => rfl
  | succ f => rw [scanF, if_neg h]
def SI.start (s : List UInt8) : SI s := ⟨0, [], s.length + 1, by omega, by omega, by simp, rfl⟩
theorem SI.blank_k (h : i.k < s.length) (hb : isB (s.getD i.k 0) = true) : (i.blank h hb).k = i.k + 1 := rfl
theorem SI.blank_acc (h : i.k < s.length) (hb : isB (s.getD i.k 0) = true) : (i.blank h hb).acc = i.acc := rfl
theorem SI.hsh_k (h : i.k < s.length) (hb : s.getD i.k 0 = 35) : (i.hsh h hb).k = runF notLF s i.k := rfl
theorem SI.hsh_acc (h : i.k < s.length) (hb : s.getD i.k 0 = 35) : (i.hsh h hb).acc = i.acc := rfl
theorem SI.tok_k (h : i.k < s.length) (hb : ¬ (isB (s.getD i.k 0) = true)) (hh : ¬ s.getD i.k 0 = 35) (h0 : (oneF s i.k).2.2 = 0) : (i.tok h hb hh h0).k = (oneF s i.k).2.1.toNat := rfl
theorem SI.tok_acc (h : i.k < s.length) (hb : ¬ (isB (s.getD i.k 0) = true)) (hh : ¬ s.getD i.k 0 = 35) (h0 : (oneF s i.k).2.2 = 0) : (i.tok h hb hh h0).acc = i.acc ++ [(oneF s i.k).1] := rfl
theorem SI.start_k (s : List UInt8) : (SI.start s).k = 0 := rfl
theorem SI.start_acc (s : List UInt8) : (SI.start s).acc = [] := rfl
theorem u8f {c d : UInt8} (h : c ≠ d) : (((c.toNat : Nat) : Int) == ((d.toNat : Nat) : Int)) = false := by
  have : ¬ ((c.toNat : Int) = d.toNat) := fun e => h (UInt8.toNat.inj (by omega))
  simpa using this
theorem u8b (c d : UInt8) : (((c.toNat : Nat) : Int) == ((d.toNat : Nat) : Int)) = (c == d) := by
  rw [Bool.eq_iff_iff]
  simp only [beq_iff_eq]
  constructor
  · intro h; exact UInt8.toNat.inj (by omega)
  · intro h; rw [h]
def dblF (a b : Int) : Bool := b == 61 && (a == 61 || a == 33 || a == 60 || a == 62) || a == 38 && b == 38 || a == 124 && b == 124
def sngL : List UInt8 := [40, 41, 123, 125, 91, 93, 44, 59, 61, 60, 62, 43, 45, 42, 47, 37, 33]
theorem signF_eq (c : UInt8) (n : Int) : signF c.toNat n = if dblF c.toNat n then 2 else if sngL.contains c then 1 else 0 := by
  have e := fun d : UInt8 => u8b c d
  have e1 := e 61; have e2 := e 33; have e3 := e 60; have e4 := e 62; have e5 := e 40; have e6 := e 41; have e7 := e 123; have e8 := e 125; have e9 := e 91; have e10 := e 93
  have f1 := e 44; have f2 := e 59; have f3 := e 43; have f4 := e 45; have f5 := e 42; have f6 := e 47; have f7 := e 37; have f8 := e 38; have f9 := e 124
  simp only [UInt8.reduceToNat, Int.cast_ofNat_Int] at e1 e2 e3 e4 e5 e6 e7 e8 e9 e10 f1 f2 f3 f4 f5 f6 f7 f8 f9
  unfold signF dblF sngL
  simp only [e1, e2, e3, e4, e5, e6, e7, e8, e9, e10, f1, f2, f3, f4, f5, f6, f7, f8, f9, List.contains_cons, List.contains_nil, Bool.or_false]
  have hl : (c == 40 || (c == 41 || (c == 123 || (c == 125 || (c == 91 || (c == 93 || (c == 44 || (c == 59 || (c == 61 || (c == 60 || (c == 62 || (c == 43 || (c == 45 || (c == 42 || (c == 47 || (c == 37 || c == 33)))))))))))))))) =
      ((c == 61 || c == 33 || c == 60 || c == 62) || (c == 40 || c == 41 || c == 123 || c == 125 || c == 91 || c == 93 || c == 44 || c == 59 || c == 43 || c == 45 || c == 42 || c == 47 || c == 37)) := by ac_rfl
  rw [hl]
  by_cases h38 : c = 38
  · subst h38; simp
  · by_cases h124 : c = 124
    · subst h124; simp
    · have g1 : (c == 38) = false := by simpa using h38
      have g2 : (c == 124) = false := by simpa using h124
      rw [g1, g2]
      generalize (c == 61 || c == 33 || c == 60 || c == 62) = A
      generalize (c == 40 || c == 41 || c == 123 || c == 125 || c == 91 || c == 93 || c == 44 || c == 59 || c == 43 || c == 45 || c == 42 || c == 47 || c == 37) = B
      cases A <;> cases B <;> simp
theorem run_exit (p : UInt8 → Bool) (s : List UInt8) (k : Nat) (hc : (decide ((k : Int) < s.length) && p (s.getD k 0)) = false) : runF p s k = k := by
  by_cases hlt : k < s.length
  · have h1 : decide ((k : Int) < s.length) = true := by simpa using (show (k : Int) < s.length by omega)
    rw [h1, Bool.true_and] at hc
    rw [runF_step p s k hlt, hc]; simp
  · exact runF_end p s k (by omega)
theorem run_more (p : UInt8 → Bool) (s : List UInt8) (k : Nat) (hc : (decide ((k : Int) < s.length) && p (s.getD k 0)) = true) : k < s.length ∧ runF p s k = runF p s (k + 1) ∧ k < runF p s k := by
  rw [Bool.and_eq_true, decide_eq_true_eq] at hc
  have hlt : k < s.length := by omega
  have h1 := runF_step p s k hlt
  rw [hc.2, if_pos rfl] at h1
  have := runF_ge p s (k + 1)
  exact ⟨hlt, h1, by omega⟩
theorem isB_not {c : UInt8} (h : ¬ (isB c = true)) : c ≠ 9 ∧ c ≠ 10 ∧ c ≠ 13 ∧ c ≠ 32 := by
  simp [isB] at h; exact ⟨h.1.1.1, h.1.1.2, h.1.2, h.2⟩
theorem isB_or {c : UInt8} (h : isB c = true) : c = 9 ∨ c = 10 ∨ c = 13 ∨ c = 32 := by
  simp [isB] at h
  rcases h with ((h | h) | h) | h <;> simp [h]
end Go.Abs
namespace Go.Abs
open Go
end Go.Abs
namespace Go.Abs
open Go
section
variable (op value : Int) (name : List UInt8) (slot size : Int) (args : List Ex) (place val : Ex) (body els : List Sm)
theorem Ex.op_mk : (Ex.mk op value name slot size args).op = op := rfl
theorem Ex.value_mk : (Ex.mk op value name slot size args).value = value := rfl
theorem Ex.name_mk : (Ex.mk op value name slot size args).name = name := rfl
theorem Ex.slot_mk : (Ex.mk op value name slot size args).slot = slot := rfl
theorem Ex.size_mk : (Ex.mk op value name slot size args).size = size := rfl
theorem Ex.args_mk : (Ex.mk op value name slot size args).args = args := rfl
theorem Sm.kind_mk : (Sm.mk op name slot size place val body els).kind = op := rfl
theorem Sm.name_mk : (Sm.mk op name slot size place val body els).name = name := rfl
theorem Sm.slot_mk : (Sm.mk op name slot size place val body els).slot = slot := rfl
theorem Sm.size_mk : (Sm.mk op name slot size place val body els).size = size := rfl
theorem Sm.place_mk : (Sm.mk op name slot size place val body els).place = place := rfl
theorem Sm.value_mk : (Sm.mk op name slot size place val body els).value = val := rfl
theorem Sm.body_mk : (Sm.mk op name slot size place val body els).body = body := rfl
theorem Sm.els_mk : (Sm.mk op name slot size place val body els).els = els := rfl
end
end Go.Abs
namespace Go.Abs
open Go
def wordsL : List UInt8 := [32, 118, 97, 114, 32, 97, 114, 114, 97, 121, 32, 111, 110, 32, 115, 116, 97, 114, 116, 32, 109, 101, 115, 115, 97, 103, 101, 32, 116, 105, 99, 107, 32, 105, 110, 112, 117, 116, 32, 105, 102, 32, 101, 108, 115, 101, 32, 119, 104, 105, 108, 101, 32, 115, 101, 110, 100, 32, 111, 117, 116, 112, 117, 116, 32, 115, 101, 108, 102, 32, 112, 114, 111, 99, 115, 32, 102, 114, 111, 109, 32, 118, 97, 108, 117, 101, 32]
theorem wordsL_len : wordsL.length = 87 := rfl
def resL : List (List UInt8) := [[118, 97, 114], [97, 114, 114, 97, 121], [111, 110], [115, 116, 97, 114, 116], [109, 101, 115, 115, 97, 103, 101], [116, 105, 99, 107], [105, 110, 112, 117, 116], [105, 102], [101, 108, 115, 101], [119, 104, 105, 108, 101], [115, 101, 110, 100], [111, 117, 116, 112, 117, 116], [115, 101, 108, 102], [112, 114, 111, 99, 115], [102, 114, 111, 109], [118, 97, 108, 117, 101]]
theorem resF_mem {s : List UInt8} (h : resF s = true) : s ∈ resL := by
  simp only [resF, Bool.or_eq_true, beq_iff_eq] at h
  simp only [resL, List.mem_cons, List.not_mem_nil, or_false]
  grind
def hitW (s : List UInt8) (i : Nat) : Bool := (wordsL.take (i + (s.length + 2))).drop i == 32 :: (s ++ [32])
theorem resL_hits : ∀ w ∈ resL, (List.range 87).any (fun i => decide (i + (w.length + 2) ≤ 87) && hitW w i) = true := by decide +kernel
theorem resW_miss {s : List UInt8} (h : ∀ i, i + (s.length + 2) ≤ 87 → hitW s i = false) : resF s = false := by
  cases hr : resF s with
  | false => rfl
  | true =>
    have := resL_hits s (resF_mem hr)
    rw [List.any_eq_true] at this
    obtain ⟨i, _, hi⟩ := this
    simp only [Bool.and_eq_true, decide_eq_true_eq] at hi
    rw [h i hi.1] at hi
    exact absurd hi.2 (by simp)
theorem words_ok : ∀ i < 87, (wordsL.drop (i + 1)).takeWhile (· != 32) = [] ∨ resF ((wordsL.drop (i + 1)).takeWhile (· != 32)) = true ∨ wordsL.getD i 0 ≠ 32 := by decide +kernel
theorem takeWhile_blank : ∀ (s r : List UInt8), (∀ c ∈ s, c ≠ 32) → (s ++ 32 :: r).takeWhile (· != 32) = s
  | [], r, _ => by simp
  | c :: s, r, h => by
    have h1 : c ≠ 32 := h c (by simp)
    simp [List.takeWhile_cons, h1, takeWhile_blank s r (fun x hx => h x (by simp [hx]))]
theorem resW_hit {s : List UInt8} (h0 : s ≠ []) (hb : ∀ c ∈ s, c ≠ 32) {i : Nat} (hi : i + (s.length + 2) ≤ 87) (hh : hitW s i = true) : resF s = true := by
  simp only [hitW, beq_iff_eq] at hh
  have hd : wordsL.drop i = 32 :: (s ++ 32 :: wordsL.drop (i + (s.length + 2))) := by
    have h1 : wordsL = wordsL.take (i + (s.length + 2)) ++ wordsL.drop (i + (s.length + 2)) := (List.take_append_drop _ _).symm
    have h2 : wordsL.drop i = (wordsL.take (i + (s.length + 2))).drop i ++ wordsL.drop (i + (s.length + 2)) := by
      conv => lhs; rw [h1]
      rw [List.drop_append_of_le_length (by rw [List.length_take, wordsL_len]; omega)]
    rw [h2, hh]; simp
  have hd1 : wordsL.drop (i + 1) = s ++ 32 :: wordsL.drop (i + (s.length + 2)) := by
    have : wordsL.drop (i + 1) = (wordsL.drop i).drop 1 := by rw [List.drop_drop]
    rw [this, hd]; rfl
  have hlt : i < 87 := by omega
  rcases words_ok i hlt with h | h | h
  · rw [hd1, takeWhile_blank s _ hb] at h; exact absurd h h0
  · rw [hd1, takeWhile_blank s _ hb] at h; exact h
  · exfalso; apply h
    have hw : i < wordsL.length := by rw [wordsL_len]; exact hlt
    have : (wordsL.drop i)[0]? = some 32 := by rw [hd]; rfl
    rw [List.getElem?_drop, Nat.add_zero] at this
    simp [List.getD, this]
theorem wordF_all (s : List UInt8) : (((wordF s 0 : Nat) : Int) == (s.length : Int)) = s.all isW := by
  rw [beq_natCast]
  unfold wordF
  simp only [List.drop_zero, Nat.zero_add]
  induction s with
  | nil => rfl
  | cons c r ih =>
    rw [List.takeWhile_cons]
    cases h : isW c
    · simp [h]
    · simp only [if_true, List.length_cons, List.all_cons, h, Bool.true_and]
      rw [← ih]
      simp
end Go.Abs
namespace Go.Abs
open Go
inductive PR (α : Type) where
  | ok (a : α) (k : Nat)
  | bad (k : Nat)
  | out
def PR.bind {α β : Type} (r : PR α) (f : α → Nat → PR β) : PR β :=
  match r with
  | .ok a k => f a k
  | .bad k => .bad k
  | .out => .out
section
variable (l : List TkD)
def peekF (k : Nat) : List UInt8 := if k < l.length then (l.getD k tk0).text else []
def isT (k : Nat) (s : List UInt8) : Bool := peekF l k == s
def expF (s : List UInt8) (k : Nat) : PR Unit := if isT l k s then .ok () (k + 1) else .bad k
def pnmF (k : Nat) : PR (List UInt8) := if k < l.length ∧ (l.getD k tk0).kind = 1 ∧ validF (l.getD k tk0).text = true then .ok (l.getD k tk0).text (k + 1) else .bad k
def nmF (least : Int) (k : Nat) : PR Int := if k < l.length ∧ (l.getD k tk0).kind = 2 ∧ least ≤ (l.getD k tk0).value then .ok (l.getD k tk0).value (k + 1) else .bad k
def isNum (k : Nat) : Bool := decide (k < l.length) && (l.getD k tk0).kind == 2
def opF (lv : Nat) (s : List UInt8) : Nat :=
  if lv = 0 then (if s == [124, 124] then 22 else 0)
  else if lv = 1 then (if s == [38, 38] then 21 else 0)
  else if lv = 2 then (if s == [60] then 15 else if s == [60, 61] then 16 else if s == [62] then 17 else if s == [62, 61] then 18 else if s == [61, 61] then 19 else if s == [33, 61] then 20 else 0)
  else if lv = 3 then (if s == [43] then 10 else if s == [45] then 11 else 0)
  else if lv = 4 then (if s == [42] then 12 else if s == [47] then 13 else if s == [37] then 14 else 0)
  else 0
def exK (op : Int) : Ex := .mk op 0 [] 0 0 []
def exC (v : Int) : Ex := .mk 1 v [] 0 0 []
def exN (nm : List UInt8) : Ex := .mk 2 0 nm 0 0 []
def exI (nm : List UInt8) (e : Ex) : Ex := .mk 3 0 nm 0 0 [e]
def exU (op : Int) (e : Ex) : Ex := .mk op 0 [] 0 0 [e]
def exB (op : Int) (a b : Ex) : Ex := .mk op 0 [] 0 0 [a, b]
def exZ : Ex := exK 0
inductive Nt where
  | bin (lv : Nat)
  | loop (lv : Nat) (e : Ex)
  | un
  | prim
def exF : Nat → Nt → Nat → PR Ex
  | 0, _, _ => .out
  | n + 1, .bin lv, k => if lv = 5 then exF n .un k else (exF n (.bin (lv + 1)) k).bind fun e k' => exF n (.loop lv e) k'
  | n + 1, .loop lv e, k => if opF lv (peekF l k) = 0 then .ok e k else (exF n (.bin (lv + 1)) (k + 1)).bind fun e2 k2 => exF n (.loop lv (exB (opF lv (peekF l k)) e e2)) k2
  | n + 1, .un, k =>
    if isT l k [45] then (exF n .un (k + 1)).bind fun e k' => .ok (exU 8 e) k'
    else if isT l k [33] then (exF n .un (k + 1)).bind fun e k' => .ok (exU 9 e) k'
    else exF n .prim k
  | n + 1, .prim, k =>
    if isNum l k then (nmF l 0 k).bind fun v k' => .ok (exC v) k'
    else if isT l k [115, 101, 108, 102] then .ok (exK 4) (k + 1)
    else if isT l k [112, 114, 111, 99, 115] then .ok (exK 5) (k + 1)
    else if isT l k [102, 114, 111, 109] then .ok (exK 6) (k + 1)
    else if isT l k [118, 97, 108, 117, 101] then .ok (exK 7) (k + 1)
    else if isT l k [40] then (exF n (.bin 0) (k + 1)).bind fun e k' => (expF l [41] k').bind fun _ k2 => .ok e k2
    else (pnmF l k).bind fun nm k1 => if isT l k1 [91] then (exF n (.bin 0) (k1 + 1)).bind fun e k' => (expF l [93] k').bind fun _ k2 => .ok (exI nm e) k2 else .ok (exN nm) k1
def pexF (k : Nat) : PR Ex := exF l (9 * l.length + 20) (.bin 0) k
inductive Ns where
  | block
  | stmts (acc : List Sm)
  | stmt
def smE (kind : Int) (nm : List UInt8) (place value : Ex) (body els : List Sm) : Sm := .mk kind nm 0 0 place value body els
def smF : Nat → Ns → Nat → PR (List Sm)
  | 0, _, _ => .out
  | n + 1, .block, k => (expF l [123] k).bind fun _ k1 => smF n (.stmts []) k1
  | n + 1, .stmts acc, k => if isT l k [125] then .ok acc (k + 1) else (smF n .stmt k).bind fun s k1 => smF n (.stmts (acc ++ s)) k1
  | n + 1, .stmt, k =>
    if isT l k [105, 102] then (pexF l (k + 1)).bind fun e k1 => (smF n .block k1).bind fun b k2 => if isT l k2 [101, 108, 115, 101] then (smF n .block (k2 + 1)).bind fun c k3 => .ok [smE 3 [] exZ e b c] k3 else .ok [smE 3 [] exZ e b []] k2
    else if isT l k [119, 104, 105, 108, 101] then (pexF l (k + 1)).bind fun e k1 => (smF n .block k1).bind fun b k2 => .ok [smE 4 [] exZ e b []] k2
    else if isT l k [115, 101, 110, 100] then (pexF l (k + 1)).bind fun p k1 => (expF l [44] k1).bind fun _ k2 => (pexF l k2).bind fun e k3 => (expF l [59] k3).bind fun _ k4 => .ok [smE 5 [] p e [] []] k4
    else if isT l k [111, 117, 116, 112, 117, 116] then (pexF l (k + 1)).bind fun e k1 => (expF l [59] k1).bind fun _ k2 => .ok [smE 6 [] exZ e [] []] k2
    else (pnmF l k).bind fun nm k1 =>
      if isT l k1 [91] then (pexF l (k1 + 1)).bind fun p k2 => (expF l [93] k2).bind fun _ k3 => (expF l [61] k3).bind fun _ k4 => (pexF l k4).bind fun e k5 => (expF l [59] k5).bind fun _ k6 => .ok [smE 2 nm p e [] []] k6
      else (expF l [61] k1).bind fun _ k4 => (pexF l k4).bind fun e k5 => (expF l [59] k5).bind fun _ k6 => .ok [smE 1 nm exZ e [] []] k6
def blockF (k : Nat) : PR (List Sm) := smF l (3 * l.length + 20) .block k
def initF (k : Nat) : PR Int := if isT l k [61] then (if isT l (k + 1) [45] then (nmF l 0 (k + 2)).bind fun v k' => .ok (-v) k' else nmF l 0 (k + 1)) else .ok 0 k
def pdcF : Nat → List VarD → Nat → PR (List VarD)
  | 0, _, _ => .out
  | n + 1, acc, k =>
    if isT l k [118, 97, 114] then (pnmF l (k + 1)).bind fun nm k1 => (initF l k1).bind fun v k2 => (expF l [59] k2).bind fun _ k3 => pdcF n (acc ++ [⟨nm, 0, v⟩]) k3
    else if isT l k [97, 114, 114, 97, 121] then (pnmF l (k + 1)).bind fun nm k1 => (expF l [91] k1).bind fun _ k2 => (nmF l 1 k2).bind fun v k3 => (expF l [93] k3).bind fun _ k4 => (expF l [59] k4).bind fun _ k5 => pdcF n (acc ++ [⟨nm, v, 0⟩]) k5
    else .ok acc k
structure Seen where
  s : Bool
  m : Bool
  t : Bool
  i : Bool
def hanF : Nat → PgD → Seen → Nat → PR PgD
  | 0, _, _, _ => .out
  | n + 1, p, z, k =>
    if k < l.length then (expF l [111, 110] k).bind fun _ k1 =>
      if !z.s && isT l k1 [115, 116, 97, 114, 116] then (blockF l (k1 + 1)).bind fun b k2 => hanF n { p with start := b } { z with s := true } k2
      else if !z.m && isT l k1 [109, 101, 115, 115, 97, 103, 101] then (blockF l (k1 + 1)).bind fun b k2 => hanF n { p with message := b } { z with m := true } k2
      else if !z.t && isT l k1 [116, 105, 99, 107] then (blockF l (k1 + 1)).bind fun b k2 => hanF n { p with tick := b } { z with t := true } k2
      else if !z.i && isT l k1 [105, 110, 112, 117, 116] then (blockF l (k1 + 1)).bind fun b k2 => hanF n { p with input := b } { z with i := true } k2
      else .bad k1
    else .ok p k
def progF : PR PgD := (pdcF l (l.length + 1) [] 0).bind fun vs k => hanF l (l.length + 1) ⟨vs, [], [], [], []⟩ ⟨false, false, false, false⟩ k
def placeF (n : Nat) (k : Nat) : Int := if k < l.length then (l.getD k tk0).pos else n
end
end Go.Abs
namespace Go.Abs
open Go
def PR.on {α : Type} (r : PR α) (k n : Nat) : Prop := match r with | .ok _ k' => k ≤ k' ∧ k' ≤ n | .bad k' => k ≤ k' ∧ k' ≤ n | .out => True
def PR.past {α : Type} (r : PR α) (k n : Nat) : Prop := match r with | .ok _ k' => k < k' ∧ k' ≤ n | .bad k' => k ≤ k' ∧ k' ≤ n | .out => True
theorem PR.past.on {α : Type} {r : PR α} {k n : Nat} (h : r.past k n) : r.on k n := by
  cases r <;> simp only [PR.past, PR.on] at * <;> omega
theorem PR.on.le {α : Type} {r : PR α} {k k0 n : Nat} (h : r.on k n) (hk : k0 ≤ k) : r.on k0 n := by
  cases r <;> simp only [PR.on] at * <;> omega
theorem PR.past.le {α : Type} {r : PR α} {k k0 n : Nat} (h : r.past k n) (hk : k0 ≤ k) : r.past k0 n := by
  cases r <;> simp only [PR.past] at * <;> omega
theorem PR.on.lt {α : Type} {r : PR α} {k k0 n : Nat} (h : r.on k n) (hk : k0 < k) : r.past k0 n := by
  cases r <;> simp only [PR.past, PR.on] at * <;> omega
theorem PR.on.bind {α β : Type} {r : PR α} {f : α → Nat → PR β} {k n : Nat} (h : r.on k n) (hf : ∀ a k', k ≤ k' → k' ≤ n → (f a k').on k' n) : (r.bind f).on k n := by
  cases r with
  | ok a k' => simp only [PR.on, PR.bind] at *; exact PR.on.le (hf a k' h.1 h.2) h.1
  | bad k' => exact h
  | out => trivial
theorem PR.past.bind {α β : Type} {r : PR α} {f : α → Nat → PR β} {k n : Nat} (h : r.past k n) (hf : ∀ a k', k < k' → k' ≤ n → (f a k').on k' n) : (r.bind f).past k n := by
  cases r with
  | ok a k' => simp only [PR.past, PR.bind] at *; exact PR.on.lt (hf a k' h.1 h.2) h.1
  | bad k' => exact h
  | out => trivial
theorem PR.ok_on {α : Type} (a : α) {k n : Nat} (h : k ≤ n) : (PR.ok a k).on k n := ⟨Nat.le_refl _, h⟩
section
variable {l : List TkD}
theorem isT_lt {k : Nat} {s : List UInt8} (h : isT l k s = true) (hs : s ≠ []) : k < l.length := by
  unfold isT peekF at h
  by_cases hk : k < l.length
  · exact hk
  · rw [if_neg hk] at h
    exact absurd (by simpa using h : ([] : List UInt8) = s).symm hs
theorem expF_past {s : List UInt8} {k : Nat} (hk : k ≤ l.length) (hs : s ≠ []) : (expF l s k).past k l.length := by
  unfold expF
  split
  · rename_i h; have := isT_lt h hs; exact ⟨by omega, by omega⟩
  · exact ⟨Nat.le_refl _, hk⟩
theorem pnmF_past {k : Nat} (hk : k ≤ l.length) : (pnmF l k).past k l.length := by
  unfold pnmF
  split
  · rename_i h; exact ⟨by omega, by omega⟩
  · exact ⟨Nat.le_refl _, hk⟩
theorem nmF_past {z : Int} {k : Nat} (hk : k ≤ l.length) : (nmF l z k).past k l.length := by
  unfold nmF
  split
  · rename_i h; exact ⟨by omega, by omega⟩
  · exact ⟨Nat.le_refl _, hk⟩
theorem opF_lt {lv k : Nat} (h : ¬ opF lv (peekF l k) = 0) : k < l.length := by
  by_cases hk : k < l.length
  · exact hk
  · exfalso
    apply h
    unfold peekF
    rw [if_neg hk]
    unfold opF
    repeat' split
    all_goals first | rfl | simp_all
def Nt.strict : Nt → Bool
  | .loop _ _ => false
  | _ => true
theorem exF_on : ∀ (n : Nat) (nt : Nt) (k : Nat), k ≤ l.length → (exF l n nt k).on k l.length ∧ (nt.strict = true → (exF l n nt k).past k l.length)
  | 0, nt, k, hk => by constructor <;> intros <;> (unfold exF; trivial)
  | n + 1, .bin lv, k, hk => by
    have h : (exF l (n + 1) (.bin lv) k).past k l.length := by
      unfold exF
      split
      · exact (exF_on n .un k hk).2 rfl
      · exact PR.past.bind ((exF_on n (.bin (lv + 1)) k hk).2 rfl) (fun e k' _ h2 => (exF_on n (.loop lv e) k' h2).1)
    exact ⟨h.on, fun _ => h⟩
  | n + 1, .loop lv e, k, hk => by
    refine ⟨?_, fun h => by cases h⟩
    unfold exF
    split
    · exact PR.ok_on _ hk
    · rename_i h
      have := opF_lt h
      exact PR.on.le (PR.on.bind (exF_on n (.bin (lv + 1)) (k + 1) (by omega)).1 (fun e2 k2 _ h2 => (exF_on n _ k2 h2).1)) (by omega)
  | n + 1, .un, k, hk => by
    have h : (exF l (n + 1) .un k).past k l.length := by
      unfold exF
      split
      · rename_i h
        have := isT_lt h (by simp)
        exact PR.on.lt (PR.on.bind (exF_on n .un (k + 1) (by omega)).1 (fun e k' _ h2 => PR.ok_on _ h2)) (by omega)
      · split
        · rename_i h
          have := isT_lt h (by simp)
          exact PR.on.lt (PR.on.bind (exF_on n .un (k + 1) (by omega)).1 (fun e k' _ h2 => PR.ok_on _ h2)) (by omega)
        · exact (exF_on n .prim k hk).2 rfl
    exact ⟨h.on, fun _ => h⟩
  | n + 1, .prim, k, hk => by
    have one : ∀ {s : List UInt8} {e : Ex}, isT l k s = true → s ≠ [] → (PR.ok e (k + 1)).past k l.length := fun h hs => ⟨by omega, by have := isT_lt h hs; omega⟩
    have h : (exF l (n + 1) .prim k).past k l.length := by
      unfold exF
      split
      · exact PR.past.bind (nmF_past hk) (fun v k' _ h2 => PR.ok_on _ h2)
      split
      · exact one ‹_› (by simp)
      split
      · exact one ‹_› (by simp)
      split
      · exact one ‹_› (by simp)
      split
      · exact one ‹_› (by simp)
      split
      · rename_i h
        have := isT_lt h (by simp)
        exact PR.on.lt (PR.on.bind (exF_on n (.bin 0) (k + 1) (by omega)).1 (fun e k' _ h2 => PR.on.bind (expF_past h2 (by simp)).on (fun _ k2 _ h3 => PR.ok_on _ h3))) (by omega)
      · refine PR.past.bind (pnmF_past hk) (fun nm k1 _ h1 => ?_)
        split
        · rename_i h
          have := isT_lt h (by simp)
          exact PR.on.le (PR.on.bind (exF_on n (.bin 0) (k1 + 1) (by omega)).1 (fun e k' _ h2 => PR.on.bind (expF_past h2 (by simp)).on (fun _ k2 _ h3 => PR.ok_on _ h3))) (by omega)
        · exact PR.ok_on _ h1
    exact ⟨h.on, fun _ => h⟩
def Nt.need (m : Nat) : Nt → Nat
  | .bin lv => 9 * m + (5 - lv) + 3
  | .loop _ _ => 9 * m + 9
  | .un => 9 * m + 2
  | .prim => 9 * m + 1
def Nt.fit : Nt → Bool
  | .bin lv => decide (lv ≤ 5)
  | .loop lv _ => decide (lv < 5)
  | _ => true
def PR.isOut {α : Type} : PR α → Bool
  | .out => true
  | _ => false
theorem PR.bind_out {α β : Type} {r : PR α} {f : α → Nat → PR β} (h : r.isOut = false) (hf : ∀ a k', r = .ok a k' → (f a k').isOut = false) : (r.bind f).isOut = false := by
  cases r with
  | ok a k' => exact hf a k' rfl
  | bad k' => rfl
  | out => cases h
theorem expF_out {s : List UInt8} {k : Nat} : (expF l s k).isOut = false := by unfold expF; split <;> rfl
theorem pnmF_out {k : Nat} : (pnmF l k).isOut = false := by unfold pnmF; split <;> rfl
theorem nmF_out {z : Int} {k : Nat} : (nmF l z k).isOut = false := by unfold nmF; split <;> rfl
theorem exF_out : ∀ (n : Nat) (nt : Nt) (k : Nat), k ≤ l.length → nt.fit = true → nt.need (l.length - k) ≤ n → (exF l n nt k).isOut = false
  | 0, nt, k, hk, _, h => by cases nt <;> simp only [Nt.need] at h <;> omega
  | n + 1, .bin lv, k, hk, hf, h => by
    simp only [Nt.need] at h
    simp only [Nt.fit, decide_eq_true_eq] at hf
    unfold exF
    split
    · exact exF_out n .un k hk rfl (by simp only [Nt.need]; omega)
    · refine PR.bind_out (exF_out n (.bin (lv + 1)) k hk (by simp only [Nt.fit, decide_eq_true_eq]; omega) (by simp only [Nt.need]; omega)) (fun e k' he => ?_)
      have h1 := (exF_on (l := l) n (.bin (lv + 1)) k hk).2 rfl
      rw [he] at h1
      exact exF_out n (.loop lv e) k' h1.2 (by simp only [Nt.fit, decide_eq_true_eq]; omega) (by have := h1.1; have := h1.2; simp only [Nt.need]; omega)
  | n + 1, .loop lv e, k, hk, hf, h => by
    simp only [Nt.need] at h
    simp only [Nt.fit, decide_eq_true_eq] at hf
    unfold exF
    split
    · rfl
    · rename_i h0
      have := opF_lt h0
      refine PR.bind_out (exF_out n (.bin (lv + 1)) (k + 1) (by omega) (by simp only [Nt.fit, decide_eq_true_eq]; omega) (by simp only [Nt.need]; omega)) (fun e2 k2 he => ?_)
      have h1 := (exF_on (l := l) n (.bin (lv + 1)) (k + 1) (by omega)).2 rfl
      rw [he] at h1
      exact exF_out n _ k2 h1.2 (by simp only [Nt.fit, decide_eq_true_eq]; omega) (by have := h1.1; have := h1.2; simp only [Nt.need]; omega)
  | n + 1, .un, k, hk, hf, h => by
    simp only [Nt.need] at h
    unfold exF
    split
    · rename_i h0
      have := isT_lt h0 (by simp)
      exact PR.bind_out (exF_out n .un (k + 1) (by omega) rfl (by simp only [Nt.need]; omega)) (fun _ _ _ => rfl)
    · split
      · rename_i h0
        have := isT_lt h0 (by simp)
        exact PR.bind_out (exF_out n .un (k + 1) (by omega) rfl (by simp only [Nt.need]; omega)) (fun _ _ _ => rfl)
      · exact exF_out n .prim k hk rfl (by simp only [Nt.need]; omega)
  | n + 1, .prim, k, hk, hf, h => by
    simp only [Nt.need] at h
    unfold exF
    split
    · exact PR.bind_out nmF_out (fun _ _ _ => rfl)
    split
    · rfl
    split
    · rfl
    split
    · rfl
    split
    · rfl
    split
    · rename_i h0
      have := isT_lt h0 (by simp)
      exact PR.bind_out (exF_out n (.bin 0) (k + 1) (by omega) rfl (by simp only [Nt.need]; omega)) (fun _ _ _ => PR.bind_out expF_out (fun _ _ _ => rfl))
    · refine PR.bind_out pnmF_out (fun nm k1 he => ?_)
      have h1 := pnmF_past (l := l) hk
      rw [he] at h1
      split
      · rename_i h0
        have := isT_lt h0 (by simp)
        exact PR.bind_out (exF_out n (.bin 0) (k1 + 1) (by omega) rfl (by have := h1.1; simp only [Nt.need]; omega)) (fun _ _ _ => PR.bind_out expF_out (fun _ _ _ => rfl))
      · rfl
theorem pexF_out {k : Nat} (hk : k ≤ l.length) : (pexF l k).isOut = false := exF_out _ _ k hk rfl (by simp only [Nt.need]; omega)
theorem pexF_past {k : Nat} (hk : k ≤ l.length) : (pexF l k).past k l.length := (exF_on _ _ k hk).2 rfl
end
end Go.Abs
namespace Go.Abs
open Go
def lvF (op : Nat) : Nat := if op = 22 then 0 else if op = 21 then 1 else if op = 10 ∨ op = 11 then 3 else if op = 12 ∨ op = 13 ∨ op = 14 then 4 else 2
def sgF (op : Nat) : List UInt8 :=
  if op = 8 ∨ op = 11 then [45] else if op = 9 then [33] else if op = 10 then [43] else if op = 12 then [42] else if op = 13 then [47] else if op = 14 then [37]
  else if op = 15 then [60] else if op = 16 then [60, 61] else if op = 17 then [62] else if op = 18 then [62, 61] else if op = 19 then [61, 61] else if op = 20 then [33, 61] else if op = 21 then [38, 38] else [124, 124]
theorem opF_of (k : Nat) (h1 : 10 ≤ k) (h2 : k ≤ 22) : opF (lvF k) (sgF k) = k := by
  have : k = 10 ∨ k = 11 ∨ k = 12 ∨ k = 13 ∨ k = 14 ∨ k = 15 ∨ k = 16 ∨ k = 17 ∨ k = 18 ∨ k = 19 ∨ k = 20 ∨ k = 21 ∨ k = 22 := by omega
  rcases this with rfl | rfl | rfl | rfl | rfl | rfl | rfl | rfl | rfl | rfl | rfl | rfl | rfl <;> rfl
theorem opF_ne {lv : Nat} {s : List UInt8} (h : opF lv s ≠ 0) : 10 ≤ opF lv s ∧ opF lv s ≤ 22 ∧ lvF (opF lv s) = lv ∧ sgF (opF lv s) = s := by
  unfold opF at h ⊢
  repeat' split
  all_goals first
    | (exfalso; simp_all; done)
    | (rename_i hs; simp only [beq_iff_eq] at hs; subst hs; subst_vars; decide)
def argA : List Ex → AVal
  | [] => .snil
  | e :: r => .pv (.slice ((e :: r).map encEx))
def exA (e : Ex) : AVal := .agg [.pv (.int .i64 e.op), .pv (.int .i64 e.value), .pv (.str e.name), .pv (.int .i64 e.slot), .pv (.int .i64 e.size), argA e.args]
theorem arg_nil : argA [] = .snil := rfl
theorem arg_cons (e : Ex) (r : List Ex) : argA (e :: r) = .pv (.slice ((e :: r).map encEx)) := rfl
theorem isC_arg (a : List Ex) : AVal.isCell (argA a) = true := by cases a <;> rfl
theorem cells_arg (a : List Ex) : AVal.cells (argA a) = [argA a] := by cases a <;> rfl
theorem ren_arg (ι : Nat → Nat) (a : List Ex) : ren ι (argA a) = argA a := by cases a <;> simp [argA, ren]
theorem sc_arg (n : Nat → Bool) (a : List Ex) : inScope n (argA a) = true := by cases a <;> simp [argA, inScope]
theorem toPs_arg (a : List Ex) (r : List AVal) : toPs (argA a :: r) = match toPs r with | some ps => some (.slice (a.map encEx) :: ps) | none => none := by
  cases a <;> (simp only [argA, toPs, AVal.toP]; cases toPs r <;> rfl)
def kA := And.intro @isC_arg <| And.intro @cells_arg <| And.intro @ren_arg <| And.intro @toPs_arg <| @arg_nil
theorem exA_K (op : Int) : exA (exK op) = .agg [.pv (.int .i64 op), .pv (.int .i64 0), .pv (.str []), .pv (.int .i64 0), .pv (.int .i64 0), .snil] := rfl
theorem exA_C (v : Int) : exA (exC v) = .agg [.pv (.int .i64 1), .pv (.int .i64 v), .pv (.str []), .pv (.int .i64 0), .pv (.int .i64 0), .snil] := rfl
theorem exA_N (nm : List UInt8) : exA (exN nm) = .agg [.pv (.int .i64 2), .pv (.int .i64 0), .pv (.str nm), .pv (.int .i64 0), .pv (.int .i64 0), .snil] := rfl
end Go.Abs
namespace Go.Abs
open Go
def dg : Nat → Nat → List UInt8
  | 0, _ => []
  | f + 1, n => if n = 0 then [] else dg f (n / 10) ++ [UInt8.ofNat (48 + n % 10)]
def decF (n : Int) : List UInt8 := if n ≤ 0 then [48] else dg 20 n.toNat
theorem dg_zero (f : Nat) : dg f 0 = [] := by cases f <;> simp [dg]
theorem dg_step (f n : Nat) (h : n ≠ 0) : dg (f + 1) n = dg f (n / 10) ++ [UInt8.ofNat (48 + n % 10)] := by rw [dg, if_neg h]
end Go.Abs
namespace Go.Abs
open Go
end Go.Abs
namespace Go.Abs
open Go
theorem valA_append : ∀ (l r : List UInt8) (a : Nat), valA (l ++ r) a = valA r (valA l a)
  | [], r, a => by simp [valA]
  | c :: l, r, a => by simp only [List.cons_append, valA]; exact valA_append l r _
theorem dg_len : ∀ (f n : Nat), (dg f n).length ≤ f
  | 0, _ => by simp [dg]
  | f + 1, n => by
    rw [dg]
    split
    · simp
    · have := dg_len f (n / 10); simp; omega
end Go.Abs
namespace Go.Abs
open Go
theorem run_all (p : UInt8 → Bool) (d : List UInt8) (h : ∀ c ∈ d, p c = true) (k : Nat) (hk : k ≤ d.length) (r : List UInt8) (hr : ∀ c, r.head? = some c → p c = false) : runF p (d ++ r) k = d.length := by
  unfold runF
  rw [List.drop_append_of_le_length hk]
  have h1 : (d.drop k ++ r).takeWhile p = d.drop k := by
    rw [List.takeWhile_append_of_pos (fun c hc => h c (List.mem_of_mem_drop hc))]
    cases r with
    | nil => simp
    | cons c r => rw [List.takeWhile_cons, hr c rfl]; simp
  rw [h1]
  simp
  omega
theorem isD_notL {c : UInt8} (h : isD c = true) : isL c = false := by
  have := digit_le h
  unfold isL letterF
  simp
  omega
theorem isD_W {c : UInt8} (h : isD c = true) : isW c = true := by
  unfold isW
  rw [show digitF c.toNat = true from h]; simp
end Go.Abs
namespace Go.Abs
open Go
structure Num (d : List UInt8) : Prop where
  all : ∀ c ∈ d, isD c = true
  ne : d ≠ []
  lead : d.getD 0 0 = 48 → d.length = 1
theorem getD_mid (p d r : List UInt8) (h : d ≠ []) : (p ++ d ++ r).getD p.length 0 = d.getD 0 0 := by
  cases d with
  | nil => exact absurd rfl h
  | cons c t => simp [List.getD]
theorem num_end (p d r : List UInt8) (hd : Num d) (hr : ∀ c, r.head? = some c → isD c = false) : numEnd (p ++ d ++ r) p.length = p.length + d.length := by
  unfold numEnd
  rw [getD_mid p d r hd.ne]
  split
  · rename_i h; rw [hd.lead h]
  · have hpos : 0 < d.length := List.length_pos_iff.2 hd.ne
    unfold runF
    rw [List.append_assoc, List.drop_append, List.drop_eq_nil_of_le (by omega), List.nil_append, show p.length + 1 - p.length = 1 by omega]
    have h1 := run_all isD d hd.all 1 (by omega) r hr
    unfold runF at h1
    omega
theorem cut_mid (p d r : List UInt8) : cut (p ++ d ++ r) p.length (p.length + d.length) = d := by
  unfold cut
  rw [List.append_assoc, List.take_append, List.take_of_length_le (by omega), show p.length + d.length - p.length = d.length by omega, List.take_append, List.take_length, List.drop_append]
  simp
end Go.Abs
namespace Go.Abs
open Go
end Go.Abs
namespace Go.Abs
open Go
end Go.Abs
namespace Go.Abs
open Go
end Go.Abs
namespace Go.Abs
open Go
inductive Sc (s : List UInt8) : Nat → List TkD → Prop
  | fin {k : Nat} : s.length ≤ k → Sc s k []
  | blank {k : Nat} {l : List TkD} : k < s.length → isB (s.getD k 0) = true → Sc s (k + 1) l → Sc s k l
  | hsh {k : Nat} {l : List TkD} : k < s.length → s.getD k 0 = 35 → Sc s (runF notLF s k) l → Sc s k l
  | tok {k e : Nat} {t : TkD} {l : List TkD} : k < s.length → ¬ (isB (s.getD k 0) = true) → ¬ s.getD k 0 = 35 → oneF s k = (t, (e : Int), 0) → Sc s e l → Sc s k (t :: l)
theorem hash_gt' (s : List UInt8) (k : Nat) (h : k < s.length) (hh : s.getD k 0 = 35) : k < runF notLF s k ∧ runF notLF s k ≤ s.length := by
  have h1 := runF_step notLF s k h
  have h2 : notLF (s.getD k 0) = true := by rw [hh]; rfl
  rw [h2, if_pos rfl] at h1
  have h3 := runF_ge notLF s (k + 1)
  exact ⟨by omega, runF_le notLF s k (by omega)⟩
theorem scanF_sc (s : List UInt8) : ∀ (f k : Nat) (acc : List TkD), s.length < k + f → (scanF s f k acc).2.2 = 0 → ∃ l, Sc s k l ∧ scanF s f k acc = (acc ++ l, 0, 0)
  | 0, k, acc, hf, _ => ⟨[], .fin (by omega), by simp [scanF]⟩
  | f + 1, k, acc, hf, h => by
    rw [scanF] at h ⊢
    by_cases hk : k < s.length
    · rw [if_pos hk] at h ⊢
      by_cases hb : isB (s.getD k 0) = true
      · rw [if_pos hb] at h ⊢
        obtain ⟨l, h1, h2⟩ := scanF_sc s f (k + 1) acc (by omega) h
        exact ⟨l, .blank hk hb h1, h2⟩
      · rw [if_neg hb] at h ⊢
        by_cases hh : s.getD k 0 = 35
        · rw [if_pos hh] at h ⊢
          have hg := hash_gt' s k hk hh
          obtain ⟨l, h1, h2⟩ := scanF_sc s f (runF notLF s k) acc (by omega) h
          exact ⟨l, .hsh hk hh h1, h2⟩
        · rw [if_neg hh] at h ⊢
          by_cases h0 : (oneF s k).2.2 = 0
          · rw [if_pos h0] at h ⊢
            obtain ⟨e, he, h1, h2⟩ := oneF_end s k hk h0
            have het : (oneF s k).2.1.toNat = e := by rw [he]; simp
            rw [het] at h ⊢
            obtain ⟨l, g1, g2⟩ := scanF_sc s f e (acc ++ [(oneF s k).1]) (by omega) h
            refine ⟨(oneF s k).1 :: l, .tok hk hb hh ?_ g1, by rw [g2]; simp⟩
            rw [← he, ← h0]
          · rw [if_neg h0] at h
            exact absurd h h0
    · rw [if_neg hk]
      exact ⟨[], .fin (by omega), by simp⟩
theorem scanF_err (s : List UInt8) : ∀ (f k : Nat) (acc : List TkD), (scanF s f k acc).2.2 ≠ 0 → (scanF s f k acc).1 = [] ∧ 0 ≤ (scanF s f k acc).2.1 ∧ (scanF s f k acc).2.1 ≤ s.length
  | 0, k, acc, h => by simp [scanF] at h
  | f + 1, k, acc, h => by
    rw [scanF] at h ⊢
    by_cases hk : k < s.length
    · rw [if_pos hk] at h ⊢
      by_cases hb : isB (s.getD k 0) = true
      · rw [if_pos hb] at h ⊢
        exact scanF_err s f _ _ h
      · rw [if_neg hb] at h ⊢
        by_cases hh : s.getD k 0 = 35
        · rw [if_pos hh] at h ⊢
          exact scanF_err s f _ _ h
        · rw [if_neg hh] at h ⊢
          by_cases h0 : (oneF s k).2.2 = 0
          · rw [if_pos h0] at h ⊢
            exact scanF_err s f _ _ h
          · rw [if_neg h0]
            exact ⟨rfl, by simp, by simp; omega⟩
    · rw [if_neg hk] at h
      simp at h
theorem scan_sc (s : List UInt8) (h : (scan s).2.2 = 0) : s.length ≤ 4096 ∧ ∃ l, Sc s 0 l ∧ scan s = (l, 0, 0) := by
  unfold scan at h ⊢
  by_cases hl : s.length > 4096
  · rw [if_pos hl] at h; simp at h
  · rw [if_neg hl] at h ⊢
    obtain ⟨l, h1, h2⟩ := scanF_sc s (s.length + 1) 0 [] (by omega) h
    exact ⟨by omega, l, h1, by rw [h2]; simp⟩
theorem scan_err (s : List UInt8) (h : (scan s).2.2 ≠ 0) : (scan s).1 = [] ∧ 0 ≤ (scan s).2.1 ∧ (scan s).2.1 ≤ s.length := by
  unfold scan at h ⊢
  by_cases hl : s.length > 4096
  · rw [if_pos hl]; exact ⟨rfl, by simp, by simp⟩
  · rw [if_neg hl] at h ⊢
    exact scanF_err s _ _ _ h
end Go.Abs
namespace Go.Abs
open Go
structure Good (t : TkD) (w : List UInt8) : Prop where
  ne : w ≠ []
  kinds : (t.kind = 1 ∧ t.text = w ∧ t.value = 0 ∧ isL (w.getD 0 0) = true ∧ (∀ c ∈ w, isW c = true) ∧ w.length ≤ 16) ∨
    (t.kind = 2 ∧ t.text = [] ∧ t.value = valF w ∧ Num w ∧ valF w < 9223372036854775808) ∨
    (t.kind = 3 ∧ t.text = w ∧ t.value = 0 ∧ isL (w.getD 0 0) = false ∧ isD (w.getD 0 0) = false ∧
      ((w.length = 1 ∧ signF (w.getD 0 0).toNat 0 = 1) ∨ (w.length = 2 ∧ signF (w.getD 0 0).toNat (w.getD 1 0).toNat = 2)))
def nx (r : List UInt8) : Int := match r with
  | [] => 0
  | c :: _ => (c.toNat : Int)
def okNext (t : TkD) (w r : List UInt8) : Prop :=
  (t.kind ≠ 3 → ∀ c, r.head? = some c → isW c = false) ∧ (t.kind = 3 → w.length = 1 → signF (w.getD 0 0).toNat (nx r) = 1)
theorem nextB_nx (s : List UInt8) (a : Nat) : nextB s a = nx (s.drop (a + 1)) := by
  unfold nextB
  by_cases h : a + 1 < s.length
  · rw [if_pos h, List.drop_eq_getElem_cons h]
    simp [nx, List.getD, h]
  · rw [if_neg h, List.drop_eq_nil_of_le (by omega)]
    rfl
theorem sign_one {c n : Int} (h : signF c n = 1) (m : Int) (hm : m ≠ 61) : signF c m = 1 := by
  unfold signF at h ⊢
  have hm' : (m == 61) = false := by simpa using hm
  rw [hm']
  split
  · rfl
  · rename_i h1
    rw [if_neg h1] at h
    split
    · rfl
    · rename_i h2
      rw [if_neg h2] at h
      split at h <;> omega
theorem run_stop (p : UInt8 → Bool) (s : List UInt8) (a : Nat) : ∀ c, (s.drop (runF p s a)).head? = some c → p c = false := by
  intro c hc
  unfold runF at hc
  rw [← List.drop_drop] at hc
  generalize s.drop a = u at hc
  induction u with
  | nil => simp at hc
  | cons x u ih =>
    rw [List.takeWhile_cons] at hc
    by_cases hx : p x = true
    · rw [if_pos hx] at hc
      simp at hc
      exact ih (by simpa using hc)
    · rw [if_neg hx] at hc
      simp at hc
      subst hc
      simpa using hx
theorem run_cut (p : UInt8 → Bool) (s : List UInt8) (a : Nat) : ∀ c ∈ cut s a (runF p s a), p c = true := by
  intro c hc
  unfold cut runF at hc
  rw [List.drop_take, show a + ((s.drop a).takeWhile p).length - a = ((s.drop a).takeWhile p).length by omega] at hc
  generalize s.drop a = u at hc
  have h1 : u.take (u.takeWhile p).length = u.takeWhile p := by
    induction u with
    | nil => simp
    | cons x u ih =>
      rw [List.takeWhile_cons]
      by_cases hx : p x = true
      · rw [if_pos hx] at *
        simp only [List.length_cons, List.take_succ_cons]
        rw [List.takeWhile_cons, if_pos hx] at hc
        simp only [List.length_cons, List.take_succ_cons] at hc
        congr 1
        clear hc
        clear ih
        induction u with
        | nil => simp
        | cons y u ih2 =>
          rw [List.takeWhile_cons]
          by_cases hy : p y = true
          · rw [if_pos hy]; simp only [List.length_cons, List.take_succ_cons]; rw [ih2]
          · rw [if_neg hy]; simp
      · rw [if_neg hx]; simp
  rw [h1] at hc
  clear h1
  induction u with
  | nil => simp at hc
  | cons x u ih =>
    rw [List.takeWhile_cons] at hc
    by_cases hx : p x = true
    · rw [if_pos hx] at hc
      rcases List.mem_cons.1 hc with rfl | hc
      · exact hx
      · exact ih hc
    · rw [if_neg hx] at hc; simp at hc
theorem cut_get0 (s : List UInt8) (a e : Nat) (h : a < e) (he : e ≤ s.length) : (cut s a e).getD 0 0 = s.getD a 0 := by
  unfold cut
  simp [List.getD, List.getElem?_drop, List.getElem?_take, h]
theorem cut_get1 (s : List UInt8) (a e : Nat) (h : a + 1 < e) (he : e ≤ s.length) : (cut s a e).getD 1 0 = s.getD (a + 1) 0 := by
  unfold cut
  simp [List.getD, List.getElem?_drop, List.getElem?_take, h]
theorem one_good (s : List UInt8) (k e : Nat) (t : TkD) (hk : k < s.length) (h : oneF s k = (t, (e : Int), 0)) : Good t (cut s k e) ∧ t.pos = k ∧ k < e ∧ e ≤ s.length ∧ okNext t (cut s k e) (s.drop e) := by
  obtain ⟨e', he', hlt, hle⟩ := oneF_end s k hk (by rw [h])
  rw [h] at he'
  simp only [Int.ofNat_inj] at he'
  have hee : e = e' := by omega
  subst hee
  have hne := cut_ne s k e hlt hle
  have hg0 := cut_get0 s k e hlt hle
  have hcl := cut_len s k e hle
  unfold oneF at h
  by_cases hl : isL (s.getD k 0) = true
  · rw [if_pos hl] at h
    by_cases h16 : runF isW s k - k > 16
    · rw [if_pos h16] at h; simp at h
    · rw [if_neg h16] at h
      simp only [Prod.mk.injEq, Int.ofNat_inj, and_true] at h
      obtain ⟨rfl, h2⟩ := h
      have h2' : runF isW s k = e := by omega
      subst h2'
      refine ⟨⟨hne, .inl ⟨rfl, rfl, rfl, by rw [hg0]; exact hl, run_cut isW s k, by omega⟩⟩, rfl, hlt, hle, ?_, ?_⟩
      · intro _; exact run_stop isW s k
      · intro hc; simp at hc
  · rw [if_neg hl] at h
    by_cases hd : isD (s.getD k 0) = true
    · rw [if_pos hd] at h
      unfold numF at h
      have hnl := numEnd_le s k hk
      by_cases hw : runF isW s (numEnd s k) > numEnd s k
      · rw [if_pos hw] at h; simp at h
      · rw [if_neg hw] at h
        by_cases hv : valF (cut s k (numEnd s k)) < 9223372036854775808
        · rw [if_pos hv] at h
          simp only [Prod.mk.injEq, Int.ofNat_inj, and_true] at h
          obtain ⟨rfl, h2⟩ := h
          have h2' : numEnd s k = e := by omega
          have hstop := run_stop isW s (numEnd s k)
          have hge := runF_ge isW s (numEnd s k)
          rw [show runF isW s (numEnd s k) = numEnd s k by omega, h2'] at hstop
          rw [h2'] at hv hge hw ⊢
          refine ⟨⟨hne, .inr (.inl ⟨rfl, rfl, rfl, ⟨?_, hne, ?_⟩, hv⟩)⟩, rfl, hlt, hle, ?_, ?_⟩
          · unfold numEnd at h2'
            split at h2'
            · rw [← h2', cut_succ s k k hk (Nat.le_refl _), cut_self]; simpa using hd
            · have h3 := run_cut isD s k
              rw [runF_step isD s k hk, if_pos hd, h2'] at h3
              exact h3
          · intro h48
            rw [hg0] at h48
            unfold numEnd at h2'
            rw [if_pos h48] at h2'
            omega
          · intro _; exact hstop
          · intro hc; simp at hc
        · rw [if_neg hv] at h; simp at h
    · rw [if_neg hd] at h
      by_cases h0 : signF (s.getD k 0).toNat (nextB s k) = 0
      · rw [if_pos h0] at h; simp at h
      · rw [if_neg h0] at h
        have hs := signF_le (s.getD k 0).toNat (nextB s k)
        simp only [Prod.mk.injEq, and_true] at h
        obtain ⟨rfl, h2⟩ := h
        have h2' : k + (signF (s.getD k 0).toNat (nextB s k)).toNat = e := by omega
        rw [h2']
        have hl' : isL (s.getD k 0) = false := by simpa using hl
        have hd' : isD (s.getD k 0) = false := by simpa using hd
        by_cases h1 : signF (s.getD k 0).toNat (nextB s k) = 1
        · have he1 : e = k + 1 := by omega
          refine ⟨⟨hne, .inr (.inr ⟨rfl, rfl, rfl, by rw [hg0]; exact hl', by rw [hg0]; exact hd', .inl ⟨by omega, ?_⟩⟩)⟩, rfl, hlt, hle, ?_, ?_⟩
          · rw [hg0]; exact sign_one h1 0 (by omega)
          · intro hc; simp at hc
          · intro _ _
            rw [hg0, he1, ← nextB_nx]
            exact h1
        · have h22 : signF (s.getD k 0).toNat (nextB s k) = 2 := by omega
          have he1 : e = k + 2 := by omega
          have hg1 := cut_get1 s k e (by omega) hle
          refine ⟨⟨hne, .inr (.inr ⟨rfl, rfl, rfl, by rw [hg0]; exact hl', by rw [hg0]; exact hd', .inr ⟨by omega, ?_⟩⟩)⟩, rfl, hlt, hle, ?_, ?_⟩
          · rw [hg0, hg1]
            rw [← h22]
            unfold nextB
            rw [if_pos (by omega)]
          · intro hc; simp at hc
          · intro _ hc; omega
end Go.Abs
namespace Go.Abs
open Go
theorem run_mid (q : UInt8 → Bool) (p w r : List UInt8) (hw : ∀ c ∈ w, q c = true) (hr : ∀ c, r.head? = some c → q c = false) : runF q (p ++ w ++ r) p.length = p.length + w.length := by
  have h1 := run_all q w hw 0 (by omega) r hr
  unfold runF at h1 ⊢
  rw [List.append_assoc, List.drop_append, List.drop_eq_nil_of_le (Nat.le_refl _), Nat.sub_self, List.nil_append]
  simp only [List.drop_zero] at h1 ⊢
  omega
theorem run_at (q : UInt8 → Bool) (p r : List UInt8) (hr : ∀ c, r.head? = some c → q c = false) : runF q (p ++ r) p.length = p.length := by
  unfold runF
  rw [List.drop_append, List.drop_eq_nil_of_le (Nat.le_refl _), Nat.sub_self, List.nil_append, List.drop_zero]
  cases r with
  | nil => simp
  | cons c t => rw [List.takeWhile_cons, hr c rfl]; simp
theorem good_one (t : TkD) (w p r : List UInt8) (hg : Good t w) (hn : okNext t w r) : oneF (p ++ w ++ r) p.length = ({ t with pos := p.length }, ((p.length + w.length : Nat) : Int), 0) := by
  obtain ⟨hne, hk⟩ := hg
  have h0 := getD_mid p w r hne
  have hcut := cut_mid p w r
  unfold oneF
  rw [h0]
  obtain ⟨kind, text, value, pos⟩ := t
  rcases hk with ⟨h1, h2, h3, h4, h5, h6⟩ | ⟨h1, h2, h3, h4, h5⟩ | ⟨h1, h2, h3, h4, h5, h6⟩
  · simp only at h1 h2 h3
    subst h1 h2 h3
    have hr := run_mid isW p text r h5 (hn.1 (by simp))
    rw [if_pos h4, hr, if_neg (by omega), hcut]
  · simp only at h1 h2 h3
    subst h1 h2 h3
    have hD : isD (w.getD 0 0) = true := by
      cases w with
      | nil => exact absurd rfl hne
      | cons c t => exact h4.all c (by simp)
    have hs := hn.1 (by simp)
    have hne2 := num_end p w r h4 (fun c hc => by
      have := hs c hc
      cases h : isD c with
      | false => rfl
      | true => rw [isD_W h] at this; exact absurd this (by simp))
    have hr := run_at isW (p ++ w) r hs
    rw [List.length_append] at hr
    rw [isD_notL hD, if_neg (by simp), if_pos hD]
    unfold numF
    rw [hne2, hcut, hr, if_neg (by omega), if_pos h5]
  · simp only at h1 h2 h3
    subst h1 h2 h3
    have hnb : nextB (p ++ text ++ r) p.length = nx ((text ++ r).drop 1) := by
      rw [nextB_nx, List.append_assoc, List.drop_append, List.drop_eq_nil_of_le (by omega), List.nil_append, show p.length + 1 - p.length = 1 by omega]
    rw [h4, h5, if_neg (by simp), if_neg (by simp), hnb]
    have key : signF (text.getD 0 0).toNat (nx ((text ++ r).drop 1)) = text.length := by
      rcases h6 with ⟨h7, h8⟩ | ⟨h7, h8⟩
      · match text, h7 with
        | [c], _ =>
          have := hn.2 rfl rfl
          simpa using this
      · match text, h7 with
        | [c, d], _ => simpa [nx] using h8
    rw [key]
    have hpos : 0 < text.length := List.length_pos_iff.2 hne
    rw [if_neg (by omega), Int.toNat_natCast, hcut]
    simp
def stopR (r : List UInt8) : Prop := ∀ c, r.head? = some c → isB c = true ∨ c = 35
theorem stop_next (t : TkD) (w r : List UInt8) (hg : Good t w) (hr : stopR r) : okNext t w r := by
  refine ⟨fun _ c hc => ?_, fun h3 hl => ?_⟩
  · rcases hr c hc with h | h
    · rcases isB_or h with h | h | h | h <;> subst h <;> decide
    · subst h; decide
  · rcases hg.kinds with h | h | ⟨_, _, _, _, _, h6⟩
    · rw [h.1] at h3; omega
    · rw [h.1] at h3; omega
    · have h1 : signF (w.getD 0 0).toNat 0 = 1 := by
        rcases h6 with h6 | h6
        · exact h6.2
        · omega
      refine sign_one h1 _ ?_
      cases r with
      | nil => simp [nx]
      | cons c r =>
        rcases hr c rfl with h | h
        · rcases isB_or h with h | h | h | h <;> subst h <;> simp [nx]
        · subst h; simp [nx]
end Go.Abs
namespace Go.Abs
open Go
def strip (t : TkD) : TkD := { t with pos := 0 }
def Su (u : List UInt8) (l : List TkD) : Prop := ∀ p : List UInt8, ∃ l', Sc (p ++ u) p.length l' ∧ l'.map strip = l.map strip
theorem Su.blank {c : UInt8} {u : List UInt8} {l : List TkD} (hc : isB c = true) (h : Su u l) : Su (c :: u) l := by
  intro p
  obtain ⟨l', h1, h2⟩ := h (p ++ [c])
  refine ⟨l', .blank (by simp) ?_ ?_, h2⟩
  · have : (p ++ c :: u).getD p.length 0 = c := by simp [List.getD]
    rw [this]; exact hc
  · simpa using h1
theorem good_first {t : TkD} {w : List UInt8} (hg : Good t w) : ¬ (isB (w.getD 0 0) = true) ∧ ¬ w.getD 0 0 = 35 := by
  have key : ∀ c : UInt8, (isB c = true ∨ c = 35) → isL c = false ∧ isD c = false ∧ ∀ n, signF c.toNat n = 0 := by
    intro c h
    have hx : c = 9 ∨ c = 10 ∨ c = 13 ∨ c = 32 ∨ c = 35 := by
      rcases h with h | h
      · rcases isB_or h with h | h | h | h <;> simp [h]
      · simp [h]
    rcases hx with rfl | rfl | rfl | rfl | rfl <;> exact ⟨by decide, by decide, fun n => by simp [signF]⟩
  have main : ¬ (isB (w.getD 0 0) = true ∨ w.getD 0 0 = 35) := by
    intro h
    obtain ⟨h1, h2, h3⟩ := key _ h
    rcases hg.kinds with ⟨_, _, _, h4, _⟩ | ⟨_, _, _, h4, _⟩ | ⟨_, _, _, _, _, h4⟩
    · rw [h1] at h4; simp at h4
    · have : isD (w.getD 0 0) = true := by
        cases w with
        | nil => exact absurd rfl hg.ne
        | cons c t => exact h4.all c (by simp)
      rw [h2] at this; simp at this
    · rcases h4 with ⟨_, h4⟩ | ⟨_, h4⟩
      · rw [h3] at h4; omega
      · rw [h3] at h4; omega
  exact ⟨fun h => main (.inl h), fun h => main (.inr h)⟩
theorem Su.tok {t : TkD} {w u : List UInt8} {l : List TkD} (hg : Good t w) (hs : stopR u) (h : Su u l) : Su (w ++ u) (t :: l) := by
  intro p
  obtain ⟨l', h1, h2⟩ := h (p ++ w)
  have ho := good_one t w p u hg (stop_next t w u hg hs)
  have hf := good_first hg
  have h0 := getD_mid p w u hg.ne
  have hpos : 0 < w.length := List.length_pos_iff.2 hg.ne
  rw [List.append_assoc] at ho h0 h1
  rw [List.length_append] at h1
  refine ⟨{ t with pos := p.length } :: l', .tok (by simp; omega) (by rw [h0]; exact hf.1) (by rw [h0]; exact hf.2) ho h1, ?_⟩
  simp [h2, strip]
theorem Sc.good {s : List UInt8} {k : Nat} {l : List TkD} (h : Sc s k l) : ∀ t ∈ l, ∃ e : Nat, ∃ a : Nat, t.pos = a ∧ k ≤ a ∧ a < e ∧ e ≤ s.length ∧ Good t (cut s a e) := by
  induction h with
  | fin _ => intro t ht; simp at ht
  | blank hk hb _ ih =>
    intro t ht
    obtain ⟨e, a, h1, h2, h3⟩ := ih t ht
    exact ⟨e, a, h1, by omega, h3⟩
  | @hsh k l hk hh _ ih =>
    intro t ht
    obtain ⟨e, a, h1, h2, h3⟩ := ih t ht
    have := hash_gt' s k hk hh
    exact ⟨e, a, h1, by omega, h3⟩
  | @tok k e t l hk hb hh ho _ ih =>
    intro x hx
    obtain ⟨g1, g2, g3, g4, _⟩ := one_good s k e t hk ho
    rcases List.mem_cons.1 hx with rfl | hx
    · exact ⟨e, k, g2, by omega, g3, g4, g1⟩
    · obtain ⟨e', a, h1, h2, h3⟩ := ih x hx
      exact ⟨e', a, h1, by omega, h3⟩
theorem dg_back : ∀ (f : Nat) (d : List UInt8), (∀ c ∈ d, isD c = true) → (d.getD 0 0 ≠ 48) → d.length ≤ f → dg f (valF d) = d ∧ (d ≠ [] → 0 < valF d)
  | 0, d, hd, h0, hl => by
    have : d = [] := List.length_eq_zero_iff.1 (by omega)
    subst this
    exact ⟨rfl, fun h => absurd rfl h⟩
  | f + 1, d, hd, h0, hl => by
    by_cases hne : d = []
    · subst hne; exact ⟨dg_zero _, fun h => absurd rfl h⟩
    · obtain ⟨r, c, rfl⟩ : ∃ r c, d = r ++ [c] := ⟨d.dropLast, d.getLast hne, (List.dropLast_concat_getLast hne).symm⟩
      have hc := digit_le (hd c (by simp))
      have hv : valF (r ++ [c]) = valF r * 10 + (c.toNat - 48) := by
        unfold valF; rw [valA_append]; rfl
      by_cases hr : r = []
      · subst hr
        have hc48 : c ≠ 48 := by simpa using h0
        have hcn : c.toNat ≠ 48 := fun e => hc48 (UInt8.toNat.inj (by simpa using e))
        have hv1 : valF [c] = c.toNat - 48 := by simp [valF, valA]
        rw [List.nil_append, hv1, dg_step _ _ (by omega), show (c.toNat - 48) / 10 = 0 by omega, dg_zero, show 48 + (c.toNat - 48) % 10 = c.toNat by omega]
        exact ⟨by simp, fun _ => by omega⟩
      · have h0' : r.getD 0 0 ≠ 48 := by
          cases r with
          | nil => exact absurd rfl hr
          | cons x r => simpa using h0
        obtain ⟨ih1, ih2⟩ := dg_back f r (fun x hx => hd x (by simp [hx])) h0' (by simp at hl; omega)
        have hp := ih2 hr
        rw [hv, dg_step _ _ (by omega), show (valF r * 10 + (c.toNat - 48)) / 10 = valF r by omega, ih1, show 48 + (valF r * 10 + (c.toNat - 48)) % 10 = c.toNat by omega]
        exact ⟨by simp, fun _ => by omega⟩
theorem valA_low : ∀ (l : List UInt8) (acc : Nat), acc * 10 ^ l.length ≤ valA l acc
  | [], acc => by simp [valA]
  | c :: r, acc => by
    rw [valA_cons]
    refine Nat.le_trans ?_ (valA_low r _)
    rw [List.length_cons, Nat.pow_succ, Nat.mul_comm (10 ^ r.length) 10, ← Nat.mul_assoc]
    exact Nat.mul_le_mul_right _ (by omega)
theorem num_len {d : List UInt8} (hd : Num d) (hv : valF d < 9223372036854775808) : d.length ≤ 20 := by
  cases d with
  | nil => simp
  | cons c r =>
    by_cases h48 : c = 48
    · subst h48; have := hd.lead rfl; omega
    · have hc := digit_le (hd.all c (by simp))
      have hcn : c.toNat ≠ 48 := fun e => h48 (UInt8.toNat.inj (by simpa using e))
      have hlow := valA_low r (c.toNat - 48)
      have hvv : valF (c :: r) = valA r (c.toNat - 48) := by unfold valF; rw [valA_cons]; simp
      rw [hvv] at hv
      by_cases hl : r.length ≤ 18
      · simp; omega
      · exfalso
        have h1 : 10 ^ 19 ≤ 10 ^ r.length := Nat.pow_le_pow_right (by omega) (by omega)
        have h2 : 1 * 10 ^ r.length ≤ (c.toNat - 48) * 10 ^ r.length := Nat.mul_le_mul_right _ (by omega)
        have h3 : (10 : Nat) ^ 19 = 10000000000000000000 := by decide
        omega
theorem num_dec {d : List UInt8} (hd : Num d) (hv : valF d < 9223372036854775808) : decF (valF d) = d := by
  by_cases h48 : d.getD 0 0 = 48
  · have hl := hd.lead h48
    match d, hl with
    | [c], _ => simp at h48; subst h48; rfl
  · obtain ⟨h1, h2⟩ := dg_back 20 d hd.all h48 (num_len hd hv)
    have := h2 hd.ne
    unfold decF
    rw [if_neg (by omega), Int.toNat_natCast, h1]
def wordT (t : TkD) : List UInt8 := if t.kind = 1 ∨ t.kind = 3 then t.text else if t.kind = 2 then decF t.value else []
theorem Good.word {t : TkD} {w : List UInt8} (hg : Good t w) : wordT t = w := by
  unfold wordT
  rcases hg.kinds with ⟨h1, h2, _⟩ | ⟨h1, _, h3, h4, h5⟩ | ⟨h1, h2, _⟩
  · rw [if_pos (.inl h1), h2]
  · rw [if_neg (by omega), if_pos h1, h3, num_dec h4 h5]
  · rw [if_pos (.inr h1), h2]
end Go.Abs
namespace Go.Abs
open Go
def printF (l : List TkD) : List UInt8 := Lib.join (l.map wordT) [32]
theorem lens_le (K : Nat) : ∀ xs : List (List UInt8), (∀ x ∈ xs, x.length ≤ K) → Lib.lens xs ≤ K * xs.length
  | [], _ => by simp [Lib.lens]
  | x :: r, h => by
    have h1 := lens_le K r (fun y hy => h y (by simp [hy]))
    have h2 := h x (by simp)
    have e : Lib.lens (x :: r) = x.length + Lib.lens r := by simp [Lib.lens]
    rw [e, List.length_cons, Nat.mul_succ]
    omega
theorem print_len (l : List TkD) (K : Nat) (h : ∀ t ∈ l, (wordT t).length ≤ K) : (printF l).length ≤ (K + 1) * l.length := by
  unfold printF
  cases l with
  | nil => simp [Lib.join_nil]
  | cons t r =>
    rw [List.map_cons, Lib.join_length]
    have := lens_le K ((t :: r).map wordT) (fun x hx => by
      obtain ⟨t', ht', rfl⟩ := List.mem_map.1 hx
      exact h t' ht')
    rw [List.map_cons] at this
    simp only [List.length_cons, List.length_map, List.length_nil] at this ⊢
    have e : (K + 1) * (r.length + 1) = K * (r.length + 1) + (r.length + 1) := by rw [Nat.add_mul, Nat.one_mul]
    omega
theorem print_one (t : TkD) : printF [t] = wordT t := by simp [printF, Lib.join_one]
theorem join_snoc (xs : List (List UInt8)) (x : List UInt8) (h : xs ≠ []) : Lib.join (xs ++ [x]) [32] = Lib.join xs [32] ++ 32 :: x := by
  cases xs with
  | nil => exact absurd rfl h
  | cons y r => rw [List.cons_append, Lib.join_cons, Lib.join_cons]; simp [Lib.joinTail]
theorem print_snoc (l : List TkD) (t : TkD) (h : l ≠ []) : printF (l ++ [t]) = printF l ++ 32 :: wordT t := by
  unfold printF
  rw [List.map_append, List.map_cons, List.map_nil, join_snoc _ _ (by simpa using h)]
end Go.Abs
namespace Go.Abs
open Go
end Go.Abs
namespace Go.Abs
open Go
end Go.Abs
namespace Go.Abs
open Go
end Go.Abs
namespace Go.Abs
open Go
end Go.Abs
namespace Go.Abs
open Go
def encB (x : UInt8) : List PVal := [.int .u8 (x.toNat : Int)]
def nxt (xs : List UInt8) (a : Nat) (n : Int) : Int × Nat := if a < xs.length then (((xs.getD a 0).toNat : Int).tmod n, a + 1) else (0, a)
theorem nxt_lt (xs : List UInt8) (a : Nat) (n : Int) (h : 0 < n) : 0 ≤ (nxt xs a n).1 ∧ (nxt xs a n).1 < n := by
  unfold nxt
  split
  · exact ⟨Int.tmod_nonneg _ (by omega), Int.tmod_lt_of_pos _ h⟩
  · exact ⟨Int.le_refl _, h⟩
theorem nxt_le (xs : List UInt8) (a : Nat) (n : Int) (h : a ≤ xs.length) : (nxt xs a n).2 ≤ xs.length := by unfold nxt; split <;> simp <;> omega
def exL (op value : Int) (name : List UInt8) (args : List Ex) : Ex := .mk op value name 0 0 args
def scal (i : Int) : List UInt8 := if i = 0 then [120] else if i = 1 then [121] else [122]
def arrN (i : Int) : List UInt8 := if i = 0 then [97] else [98]
def opN (i : Int) : Int := if i = 0 then 4 else if i = 1 then 5 else 6
def kF (small : Bool) (k m : Int) : Int := if (small && decide (k ≥ m)) = true then k - m else k
def exprStep (xs : List UInt8) (rec : Nat → Ex × Nat) (small : Bool) (a : Nat) : Ex × Nat :=
  if kF small (nxt xs a 12).1 8 < 2 then (exL 1 (nxt xs (nxt xs a 12).2 5).1 [] [], (nxt xs (nxt xs a 12).2 5).2)
  else if kF small (nxt xs a 12).1 8 < 4 then (exL 2 0 (scal (nxt xs (nxt xs a 12).2 3).1) [], (nxt xs (nxt xs a 12).2 3).2)
  else if kF small (nxt xs a 12).1 8 = 4 then (exL 7 0 [] [], (nxt xs a 12).2)
  else if kF small (nxt xs a 12).1 8 = 5 then (exL (opN (nxt xs (nxt xs a 12).2 3).1) 0 [] [], (nxt xs (nxt xs a 12).2 3).2)
  else if kF small (nxt xs a 12).1 8 = 6 ∨ small = true then (exL 1 (1 + (nxt xs (nxt xs a 12).2 200).1) [] [], (nxt xs (nxt xs a 12).2 200).2)
  else if kF small (nxt xs a 12).1 8 = 7 then (exL 3 0 (arrN (nxt xs (nxt xs a 12).2 2).1) [(rec (nxt xs (nxt xs a 12).2 2).2).1], (rec (nxt xs (nxt xs a 12).2 2).2).2)
  else if kF small (nxt xs a 12).1 8 = 8 then (exL (8 + (nxt xs (nxt xs a 12).2 2).1) 0 [] [(rec (nxt xs (nxt xs a 12).2 2).2).1], (rec (nxt xs (nxt xs a 12).2 2).2).2)
  else (exL (10 + (nxt xs (rec (nxt xs a 12).2).2 13).1) 0 [] [(rec (nxt xs a 12).2).1, (rec (nxt xs (rec (nxt xs a 12).2).2 13).2).1], (rec (nxt xs (rec (nxt xs a 12).2).2 13).2).2)
def exprF (xs : List UInt8) : Nat → Nat → Ex × Nat
  | 0, a => exprStep xs (fun a => (exL 0 0 [] [], a)) true a
  | d + 1, a => exprStep xs (exprF xs d) (decide (d + 1 ≤ 1)) a
theorem exprStep_le (xs : List UInt8) (rec : Nat → Ex × Nat) (small : Bool) (a : Nat) (ha : a ≤ xs.length) (hr : ∀ a ≤ xs.length, (rec a).2 ≤ xs.length) : (exprStep xs rec small a).2 ≤ xs.length := by
  have h0 := nxt_le xs a 12 ha
  unfold exprStep
  repeat' split
  all_goals first | exact nxt_le _ _ _ h0 | exact h0 | exact hr _ (nxt_le _ _ _ h0) | exact hr _ (nxt_le _ _ _ (hr _ h0))
theorem exprF_le (xs : List UInt8) : ∀ (d a : Nat), a ≤ xs.length → (exprF xs d a).2 ≤ xs.length
  | 0, a, h => exprStep_le xs _ _ a h (fun a h => h)
  | d + 1, a, h => exprStep_le xs _ _ a h (fun a h => exprF_le xs d a h)
def smL (kind : Int) (name : List UInt8) (place value : Ex) (body els : List Sm) : Sm := .mk kind name 0 0 place value body els
def ex0 : Ex := .mk 0 0 [] 0 0 []
def stmtStep (xs : List UInt8) (rec : Int → Nat → List Sm × Nat) (small : Bool) (a : Nat) : Sm × Nat :=
  let q := nxt xs a 10
  if kF small q.1 7 < 3 then (smL 1 (scal (nxt xs q.2 3).1) ex0 (exprF xs 3 (nxt xs q.2 3).2).1 [] [], (exprF xs 3 (nxt xs q.2 3).2).2)
  else if kF small q.1 7 = 3 then (smL 2 (arrN (nxt xs q.2 2).1) (exprF xs 2 (nxt xs q.2 2).2).1 (exprF xs 2 (exprF xs 2 (nxt xs q.2 2).2).2).1 [] [], (exprF xs 2 (exprF xs 2 (nxt xs q.2 2).2).2).2)
  else if kF small q.1 7 < 6 then (smL 5 [] (exprF xs 2 q.2).1 (exprF xs 2 (exprF xs 2 q.2).2).1 [] [], (exprF xs 2 (exprF xs 2 q.2).2).2)
  else if kF small q.1 7 = 6 then (smL 6 [] ex0 (exprF xs 2 q.2).1 [] [], (exprF xs 2 q.2).2)
  else if kF small q.1 7 < 9 then (smL 3 [] ex0 (exprF xs 2 q.2).1 (rec 2 (exprF xs 2 q.2).2).1 (rec 1 (rec 2 (exprF xs 2 q.2).2).2).1, (rec 1 (rec 2 (exprF xs 2 q.2).2).2).2)
  else (smL 4 [] ex0 (exprF xs 2 q.2).1 (rec 2 (exprF xs 2 q.2).2).1 [], (rec 2 (exprF xs 2 q.2).2).2)
def stmtsLoop (xs : List UInt8) (rec : Int → Nat → List Sm × Nat) (small : Bool) : Nat → Nat → List Sm × Nat
  | 0, a => ([], a)
  | n + 1, a => ((stmtStep xs rec small a).1 :: (stmtsLoop xs rec small n (stmtStep xs rec small a).2).1, (stmtsLoop xs rec small n (stmtStep xs rec small a).2).2)
def stmtsTop (xs : List UInt8) (rec : Int → Nat → List Sm × Nat) (small : Bool) (most : Int) (a : Nat) : List Sm × Nat :=
  stmtsLoop xs rec small (nxt xs a (most + 1)).1.toNat (nxt xs a (most + 1)).2
def stmtsF (xs : List UInt8) : Nat → Int → Nat → List Sm × Nat
  | 0, most, a => stmtsTop xs (fun _ a => ([], a)) true most a
  | d + 1, most, a => stmtsTop xs (stmtsF xs d) (decide (d + 1 ≤ 1)) most a
theorem stmtStep_le (xs : List UInt8) (rec : Int → Nat → List Sm × Nat) (small : Bool) (a : Nat) (ha : a ≤ xs.length) (hr : ∀ m a, a ≤ xs.length → (rec m a).2 ≤ xs.length) : (stmtStep xs rec small a).2 ≤ xs.length := by
  have h0 := nxt_le xs a 10 ha
  unfold stmtStep
  dsimp only
  repeat' split
  all_goals dsimp only
  all_goals first | exact exprF_le _ _ _ (nxt_le _ _ _ h0) | exact exprF_le _ _ _ (exprF_le _ _ _ (nxt_le _ _ _ h0)) | exact exprF_le _ _ _ (exprF_le _ _ _ h0) | exact exprF_le _ _ _ h0 | exact hr _ _ (hr _ _ (exprF_le _ _ _ h0)) | exact hr _ _ (exprF_le _ _ _ h0)
theorem stmtsLoop_le (xs : List UInt8) (rec : Int → Nat → List Sm × Nat) (small : Bool) (hr : ∀ m a, a ≤ xs.length → (rec m a).2 ≤ xs.length) : ∀ (n a : Nat), a ≤ xs.length → (stmtsLoop xs rec small n a).2 ≤ xs.length
  | 0, a, h => h
  | n + 1, a, h => stmtsLoop_le xs rec small hr n _ (stmtStep_le xs rec small a h hr)
theorem stmtsF_le (xs : List UInt8) : ∀ (d : Nat) (m : Int) (a : Nat), a ≤ xs.length → (stmtsF xs d m a).2 ≤ xs.length
  | 0, m, a, h => stmtsLoop_le xs _ _ (fun _ _ h => h) _ _ (nxt_le _ _ _ h)
  | d + 1, m, a, h => stmtsLoop_le xs _ _ (fun m a h => stmtsF_le xs d m a h) _ _ (nxt_le _ _ _ h)
def eB : Nat → Nat
  | 0 => 1
  | d + 1 => 1 + 2 * eB d
theorem exprStep_sz (xs : List UInt8) (rec : Nat → Ex × Nat) (small : Bool) (a B : Nat) (hr : ∀ a, szE (rec a).1 ≤ B) : szE (exprStep xs rec small a).1 ≤ 1 + 2 * B := by
  have h := fun a => hr a
  unfold exprStep
  repeat' split
  all_goals simp only [exL, szE, szEs]
  all_goals try omega
  · have := h (nxt xs (nxt xs a 12).2 2).2; omega
  · have := h (nxt xs (nxt xs a 12).2 2).2; omega
  · have := h (nxt xs a 12).2; have := h (nxt xs (rec (nxt xs a 12).2).2 13).2; omega
theorem exprF_sz (xs : List UInt8) : ∀ (d a : Nat), szE (exprF xs d a).1 ≤ 1 + 2 * eB d
  | 0, a => exprStep_sz xs _ _ a 1 (fun a => by simp [exL, szE, szEs])
  | d + 1, a => exprStep_sz xs _ _ a _ (fun a => by have := exprF_sz xs d a; simp only [eB] at *; omega)
def sB : Nat → Nat
  | 0 => 100
  | d + 1 => 100 + 3 * sB d
theorem stmtStep_sz (xs : List UInt8) (rec : Int → Nat → List Sm × Nat) (small : Bool) (a B : Nat) (h2 : ∀ a, szSs (rec 2 a).1 ≤ 2 * B) (h1 : ∀ a, szSs (rec 1 a).1 ≤ B) : szS (stmtStep xs rec small a).1 ≤ 100 + 3 * B := by
  have e2 := fun a => exprF_sz xs 2 a
  have e3 := fun a => exprF_sz xs 3 a
  simp only [eB] at e2 e3
  unfold stmtStep
  dsimp only
  repeat' split
  all_goals simp only [smL, szS, szSs, ex0, szE, szEs]
  · have := e3 (nxt xs (nxt xs a 10).2 3).2; omega
  · have := e2 (nxt xs (nxt xs a 10).2 2).2; have := e2 (exprF xs 2 (nxt xs (nxt xs a 10).2 2).2).2; omega
  · have := e2 (nxt xs a 10).2; have := e2 (exprF xs 2 (nxt xs a 10).2).2; omega
  · have := e2 (nxt xs a 10).2; omega
  · have := e2 (nxt xs a 10).2; have := h2 (exprF xs 2 (nxt xs a 10).2).2; have := h1 (rec 2 (exprF xs 2 (nxt xs a 10).2).2).2; omega
  · have := e2 (nxt xs a 10).2; have := h2 (exprF xs 2 (nxt xs a 10).2).2; omega
theorem stmtsLoop_sz (xs : List UInt8) (rec : Int → Nat → List Sm × Nat) (small : Bool) (B : Nat) (h : ∀ a, szS (stmtStep xs rec small a).1 ≤ B) : ∀ (n a : Nat), szSs (stmtsLoop xs rec small n a).1 ≤ n * B
  | 0, a => by simp [stmtsLoop, szSs]
  | n + 1, a => by
    have h1 := h a
    have h2 := stmtsLoop_sz xs rec small B h n (stmtStep xs rec small a).2
    simp only [stmtsLoop, szSs]
    rw [Nat.succ_mul]; omega
theorem stmtsTop_sz (xs : List UInt8) (rec : Int → Nat → List Sm × Nat) (small : Bool) (B : Nat) (h : ∀ a, szS (stmtStep xs rec small a).1 ≤ B) (most : Nat) (a : Nat) : szSs (stmtsTop xs rec small most a).1 ≤ most * B := by
  unfold stmtsTop
  have h1 := nxt_lt xs a ((most : Int) + 1) (by omega)
  refine Nat.le_trans (stmtsLoop_sz xs rec small B h _ _) (Nat.mul_le_mul_right _ (by omega))
theorem stmtsF_sz (xs : List UInt8) : ∀ (d : Nat) (most : Nat) (a : Nat), szSs (stmtsF xs d most a).1 ≤ most * sB (d + 1)
  | 0, most, a => stmtsTop_sz xs _ _ _ (fun a => Nat.le_trans (stmtStep_sz xs _ _ a 0 (fun _ => by simp [szSs]) (fun _ => by simp [szSs])) (by simp [sB])) most a
  | d + 1, most, a => stmtsTop_sz xs _ _ _ (fun a => Nat.le_trans (stmtStep_sz xs _ _ a (sB (d + 1)) (fun a => stmtsF_sz xs d 2 a) (fun a => by have := stmtsF_sz xs d 1 a; simpa using this)) (by simp [sB])) most a
end Go.Abs
namespace Go.Abs
open Go
def varsF (u v w : Int) : List VarD := [⟨[120], 0, u - 2⟩, ⟨[97], 1 + v, 0⟩, ⟨[121], 0, 0⟩, ⟨[122], 0, w⟩, ⟨[98], 2, 0⟩]
def programF (xs : List UInt8) (a : Nat) : PgD × Nat :=
  let m1 := nxt xs a 7
  let m2 := nxt xs m1.2 5
  let m3 := nxt xs m2.2 3
  let s1 := stmtsF xs 2 3 m3.2
  let s2 := stmtsF xs 3 4 s1.2
  let s3 := stmtsF xs 2 3 s2.2
  let s4 := stmtsF xs 2 2 s3.2
  (⟨varsF m1.1 m2.1 m3.1, s1.1, s2.1, s3.1, s4.1⟩, s4.2)
theorem programF_sz (xs : List UInt8) (a : Nat) : szP (programF xs a).1 ≤ 100000 := by
  unfold programF szP
  dsimp only
  have h1 := stmtsF_sz xs 2 3 (nxt xs (nxt xs (nxt xs a 7).2 5).2 3).2
  have h2 := stmtsF_sz xs 3 4 (stmtsF xs 2 3 (nxt xs (nxt xs (nxt xs a 7).2 5).2 3).2).2
  have h3 := stmtsF_sz xs 2 3 (stmtsF xs 3 4 (stmtsF xs 2 3 (nxt xs (nxt xs (nxt xs a 7).2 5).2 3).2).2).2
  have h4 := stmtsF_sz xs 2 2 (stmtsF xs 2 3 (stmtsF xs 3 4 (stmtsF xs 2 3 (nxt xs (nxt xs (nxt xs a 7).2 5).2 3).2).2).2).2
  simp only [sB, Int.cast_ofNat_Int] at h1 h2 h3 h4
  simp only [varsF, List.length_cons, List.length_nil]
  omega
end Go.Abs
namespace Go.Abs
open Go
end Go.Abs
namespace Go.Abs
open Go
def opdT (q : Bool × List UInt8) : List UInt8 := if q.1 then 40 :: (q.2 ++ [41]) else q.2
def fmN (op value : Int) (nm : List UInt8) (ts : List (Bool × List UInt8)) : List UInt8 :=
  if op = 1 then decF value else if op = 2 then nm
  else if op = 3 then nm ++ 91 :: ((ts.getD 0 (false, [])).2 ++ [93])
  else if op = 4 then [115, 101, 108, 102] else if op = 5 then [112, 114, 111, 99, 115] else if op = 6 then [102, 114, 111, 109] else if op = 7 then [118, 97, 108, 117, 101]
  else if op = 8 ∨ op = 9 then sgF op.toNat ++ opdT (ts.getD 0 (false, []))
  else opdT (ts.getD 0 (false, [])) ++ 32 :: (sgF op.toNat ++ 32 :: opdT (ts.getD 1 (false, [])))
mutual
def fmE : Ex → List UInt8
  | .mk op value nm _ _ args => fmN op value nm (fmEs args)
def fmEs : List Ex → List (Bool × List UInt8)
  | [] => []
  | e :: r => (decide (e.op ≥ 8), fmE e) :: fmEs r
end
theorem fmE_eq (e : Ex) : fmE e = fmN e.op e.value e.name (fmEs e.args) := by cases e; rfl
def indT (n : Nat) : List UInt8 := List.replicate (2 * n) 32
def fmS (kind : Int) (nm place value body els : List UInt8) (he : Bool) (n : Nat) : List UInt8 :=
  if kind = 1 then nm ++ [32, 61, 32] ++ value ++ [59, 10]
  else if kind = 2 then nm ++ [91] ++ place ++ [93, 32, 61, 32] ++ value ++ [59, 10]
  else if kind = 5 then [115, 101, 110, 100, 32] ++ place ++ [44, 32] ++ value ++ [59, 10]
  else if kind = 6 then [111, 117, 116, 112, 117, 116, 32] ++ value ++ [59, 10]
  else (if kind = 3 then [105, 102, 32] else [119, 104, 105, 108, 101, 32]) ++ value ++ [32, 123, 10] ++ body ++ indT n ++ (if he then [125, 32, 101, 108, 115, 101, 32, 123, 10] ++ els ++ indT n else []) ++ [125, 10]
mutual
def stT (n : Nat) : Sm → List UInt8
  | .mk kind nm _ _ place value body els => fmS kind nm (fmE place) (fmE value) (lsT (n + 1) body) (lsT (n + 1) els) (decide (els.length > 0)) n
def lsT (n : Nat) : List Sm → List UInt8
  | [] => []
  | s :: r => indT n ++ stT n s ++ lsT n r
end
theorem stT_eq (n : Nat) (s : Sm) : stT n s = fmS s.kind s.name (fmE s.place) (fmE s.value) (lsT (n + 1) s.body) (lsT (n + 1) s.els) (decide (s.els.length > 0)) n := by cases s; rfl
def hdT (nm : List UInt8) (l : List Sm) : List UInt8 := if l.length = 0 then [] else [111, 110, 32] ++ nm ++ [32, 123, 10] ++ lsT 1 l ++ [125, 10]
def itT (n : Int) : List UInt8 := if n < 0 then 45 :: decF (-n) else decF n
def vaT (v : VarD) : List UInt8 := if v.size ≠ 0 then [97, 114, 114, 97, 121, 32] ++ v.name ++ [91] ++ itT v.size ++ [93, 59, 10] else if v.init ≠ 0 then [118, 97, 114, 32] ++ v.name ++ [32, 61, 32] ++ itT v.init ++ [59, 10] else [118, 97, 114, 32] ++ v.name ++ [59, 10]
def vsT (l : List VarD) : List UInt8 := (l.map vaT).flatten
def pgT (p : PgD) : List UInt8 := vsT p.vars ++ hdT [115, 116, 97, 114, 116] p.start ++ hdT [109, 101, 115, 115, 97, 103, 101] p.message ++ hdT [116, 105, 99, 107] p.tick ++ hdT [105, 110, 112, 117, 116] p.input
def fmtF (p : PgD) : List UInt8 × Int :=
  if checkF goodSFs p ≠ 0 then ([], checkF goodSFs p) else if ((pgT p).length : Int) > 4096 then ([], 5) else (pgT p, 0)
theorem decF_len (n : Int) : (decF n).length ≤ 20 := by
  unfold decF
  split
  · simp
  · exact dg_len _ _
theorem itT_len (n : Int) : (itT n).length ≤ 21 := by
  unfold itT
  split
  · have := decF_len (-n); simp only [List.length_cons]; omega
  · have := decF_len n; omega
theorem valid_len {s : List UInt8} (h : validF s = true) : s.length ≤ 16 := by
  rcases Nat.lt_or_ge 16 s.length with h1 | h1
  · rw [validF_long s h1] at h; cases h
  · exact h1
theorem sgF_len (op : Nat) : (sgF op).length ≤ 2 := by
  have key : ∀ (c : Prop) [Decidable c] (a b : List UInt8), a.length ≤ 2 → b.length ≤ 2 → (if c then a else b).length ≤ 2 := fun c _ a b ha hb => by split <;> assumption
  unfold sgF
  repeat (refine key _ _ _ (by decide) ?_)
  decide
theorem opdT_len (q : Bool × List UInt8) : (opdT q).length ≤ q.2.length + 2 := by
  unfold opdT
  split <;> simp
def lnE : List (Bool × List UInt8) → Nat
  | [] => 0
  | q :: r => q.2.length + lnE r
theorem fmN_len (op value : Int) (nm : List UInt8) (ts : List (Bool × List UInt8)) (hn : nm.length ≤ 16) : (fmN op value nm ts).length ≤ lnE ts + 30 := by
  have hd := decF_len value
  have hs := sgF_len op.toNat
  have g0 : (ts.getD 0 (false, [])).2.length ≤ lnE ts := by
    cases ts with
    | nil => simp
    | cons a r => simp [lnE]
  have g1 : (ts.getD 0 (false, [])).2.length + (ts.getD 1 (false, [])).2.length ≤ lnE ts := by
    match ts with
    | [] => simp [lnE]
    | [a] => simp [lnE]
    | a :: b :: r => simp [lnE] <;> omega
  have o0 := opdT_len (ts.getD 0 (false, []))
  have o1 := opdT_len (ts.getD 1 (false, []))
  unfold fmN
  repeat' split
  all_goals (try simp only [List.length_append, List.length_cons, List.length_nil])
  all_goals omega
mutual
theorem fmE_len : ∀ e : Ex, goodEF e = true → (fmE e).length ≤ 30 * szE e
  | .mk op value nm slot size args, h => by
    rw [goodEF_eq] at h
    simp only [Bool.and_eq_true, headEF, Ex.op_mk, Ex.value_mk, Ex.name_mk, Ex.slot_mk, Ex.size_mk, Ex.args_mk] at h
    have hn : nm.length ≤ 16 := by
      have := h.1.2
      unfold goodNameF at this
      split at this
      · exact valid_len this
      · have : nm = [] := by simpa using this
        subst this; simp
    have := fmN_len op value nm (fmEs args) hn
    have := fmEs_len args h.2
    simp only [fmE, szE]
    omega
theorem fmEs_len : ∀ l : List Ex, goodEFs l = true → lnE (fmEs l) ≤ 30 * szEs l
  | [], _ => by simp [fmEs, lnE]
  | e :: r, h => by
    simp only [goodEFs, Bool.and_eq_true] at h
    have := fmE_len e h.1
    have := fmEs_len r h.2
    simp only [fmEs, lnE, szEs]
    omega
end
theorem zeroEF_eq {e : Ex} (h : zeroEF e = true) : e = exZ := by
  obtain ⟨op, value, nm, slot, size, args⟩ := e
  simp only [zeroEF, Bool.and_eq_true, beq_iff_eq, Ex.op_mk, Ex.value_mk, Ex.name_mk, Ex.slot_mk, Ex.size_mk, Ex.args_mk, Int.natCast_eq_zero, List.length_eq_zero_iff] at h
  obtain ⟨⟨⟨⟨⟨rfl, rfl⟩, rfl⟩, rfl⟩, rfl⟩, rfl⟩ := h
  rfl
theorem exZ_len : (fmE exZ).length ≤ 30 := by decide
theorem fmS_len (kind : Int) (nm place value body els : List UInt8) (he : Bool) (n : Nat) : (fmS kind nm place value body els he n).length ≤ nm.length + place.length + value.length + body.length + els.length + 4 * n + 40 := by
  unfold fmS indT
  repeat' split
  all_goals simp only [List.length_append, List.length_cons, List.length_nil, List.length_replicate]
  all_goals omega
mutual
theorem stT_len (n : Nat) : ∀ s : Sm, goodSF s = true → szS s + n ≤ 2000000 → (stT n s).length + 4000000 ≤ 20000000 * szS s
  | .mk kind nm slot size place value body els, h, hn => by
    rw [goodSF_eq] at h
    simp only [Bool.and_eq_true, headSF, Sm.kind_mk, Sm.name_mk, Sm.slot_mk, Sm.size_mk, Sm.place_mk, Sm.value_mk, Sm.body_mk, Sm.els_mk] at h
    have hnm := h.1.1.1.1.2
    have hp := h.1.1.1.2
    have hv := h.2.1.1
    have hb := h.2.1.2
    have he := h.2.2
    have h1 : nm.length ≤ 16 := by
      unfold goodNameF at hnm
      split at hnm
      · exact valid_len hnm
      · have : nm = [] := by simpa using hnm
        subst this; simp
    have h2 : (fmE place).length ≤ 30 * szE place + 30 := by
      by_cases hc : (kind == 2 || kind == 5) = true
      · have hp' : goodEF place = true := by simpa only [hc, if_true] using hp
        have := fmE_len place hp'; omega
      · have hp' : zeroEF place = true := by simpa only [hc, if_false, Bool.false_eq_true] using hp
        rw [zeroEF_eq hp']; have := exZ_len; omega
    have h3 := fmE_len value hv
    simp only [szS] at hn
    have h4 := lsT_len (n + 1) body hb (by omega)
    have h5 := lsT_len (n + 1) els he (by omega)
    have h6 := fmS_len kind nm (fmE place) (fmE value) (lsT (n + 1) body) (lsT (n + 1) els) (decide (els.length > 0)) n
    simp only [stT, szS]
    omega
theorem lsT_len (n : Nat) : ∀ l : List Sm, goodSFs l = true → szSs l + n ≤ 2000000 → (lsT n l).length ≤ 20000000 * szSs l
  | [], _, _ => by simp [lsT]
  | s :: r, h, hn => by
    simp only [goodSFs, Bool.and_eq_true] at h
    simp only [szSs] at hn
    have h1 := stT_len n s h.1 (by omega)
    have h2 := lsT_len n r h.2 (by omega)
    simp only [lsT, szSs, List.length_append, indT, List.length_replicate]
    omega
end
theorem hdT_len (nm : List UInt8) (l : List Sm) (h : goodSFs l = true) (hn : nm.length ≤ 10) (hs : szSs l ≤ 1000000) : (hdT nm l).length ≤ 20000000 * szSs l + 100 := by
  have := lsT_len 1 l h (by omega)
  unfold hdT
  split
  · simp
  · simp only [List.length_append, List.length_cons, List.length_nil]; omega
theorem vaT_len (v : VarD) (h : goodVarF v = true) : (vaT v).length ≤ 60 := by
  have hn : v.name.length ≤ 16 := by
    refine valid_len ?_
    unfold goodVarF at h
    cases hv : validF v.name with
    | true => rfl
    | false => rw [hv] at h; simp at h
  have h1 := itT_len v.size
  have h2 := itT_len v.init
  unfold vaT
  repeat' split
  all_goals simp only [List.length_append, List.length_cons, List.length_nil]
  all_goals omega
theorem vsT_len : ∀ l : List VarD, l.any (fun v => !goodVarF v) = false → (vsT l).length ≤ 60 * l.length
  | [], _ => by simp [vsT]
  | v :: r, h => by
    simp only [List.any_cons, Bool.or_eq_false_iff] at h
    have h1 := vaT_len v (by simpa using h.1)
    have h2 := vsT_len r h.2
    simp only [vsT] at h2
    simp only [vsT, List.map_cons, List.flatten_cons, List.length_append, List.length_cons]
    omega
theorem check_ok {p : PgD} (h : checkF goodSFs p = 0) : p.vars.any (fun v => !goodVarF v) = false ∧ goodSFs p.start = true ∧ goodSFs p.message = true ∧ goodSFs p.tick = true ∧ goodSFs p.input = true ∧ depP p ≤ 16 := by
  unfold checkF at h
  split at h
  · cases h
  split at h
  · cases h
  split at h
  · cases h
  · rename_i h1 h2 h3
    simp only [Bool.or_eq_true, not_or, Bool.not_eq_true', Bool.not_eq_false] at h3
    exact ⟨by simpa using h2, h3.1.1.1, h3.1.1.2, h3.1.2, h3.2, by omega⟩
theorem pgT_len (p : PgD) (h : checkF goodSFs p = 0) (hs : szP p ≤ 1000000) : (pgT p).length ≤ 50000000000000 := by
  obtain ⟨h0, h1, h2, h3, h4, _⟩ := check_ok h
  unfold szP at hs
  have a0 := vsT_len p.vars h0
  have a1 := hdT_len [115, 116, 97, 114, 116] p.start h1 (by decide) (by omega)
  have a2 := hdT_len [109, 101, 115, 115, 97, 103, 101] p.message h2 (by decide) (by omega)
  have a3 := hdT_len [116, 105, 99, 107] p.tick h3 (by decide) (by omega)
  have a4 := hdT_len [105, 110, 112, 117, 116] p.input h4 (by decide) (by omega)
  unfold pgT
  simp only [List.length_append]
  omega
def rg64 (n : Int) : Bool := decide (-9223372036854775808 ≤ n) && decide (n ≤ 9223372036854775807)
theorem rg64_ok {n : Int} (h : rg64 n = true) : -9223372036854775808 ≤ n ∧ n ≤ 9223372036854775807 := by simpa [rg64] using h
mutual
def rgE : Ex → Bool
  | .mk _ v _ _ _ args => rg64 v && rgEs args
def rgEs : List Ex → Bool
  | [] => true
  | e :: r => rgE e && rgEs r
end
theorem rgE_eq (e : Ex) : rgE e = (rg64 e.value && rgEs e.args) := by cases e; rfl
mutual
def rgS : Sm → Bool
  | .mk _ _ _ _ p v b e => rgE p && rgE v && rgSs b && rgSs e
def rgSs : List Sm → Bool
  | [] => true
  | s :: r => rgS s && rgSs r
end
theorem rgS_eq (s : Sm) : rgS s = (rgE s.place && rgE s.value && rgSs s.body && rgSs s.els) := by cases s; rfl
theorem rgSs_mem : ∀ {l : List Sm} {s : Sm}, rgSs l = true → s ∈ l → rgS s = true
  | x :: r, s, h, hm => by
    simp only [rgSs, Bool.and_eq_true] at h
    rcases List.mem_cons.1 hm with rfl | hm
    · exact h.1
    · exact rgSs_mem h.2 hm
theorem goodSFs_mem : ∀ {l : List Sm} {s : Sm}, goodSFs l = true → s ∈ l → goodSF s = true
  | x :: r, s, h, hm => by
    simp only [goodSFs, Bool.and_eq_true] at h
    rcases List.mem_cons.1 hm with rfl | hm
    · exact h.1
    · exact goodSFs_mem h.2 hm
def rgV (v : VarD) : Bool := rg64 v.size && rg64 v.init
def rgP (p : PgD) : Bool := p.vars.all rgV && rgSs p.start && rgSs p.message && rgSs p.tick && rgSs p.input
theorem good_cases {e : Ex} (h : goodEF e = true) : (e.op = 1 ∧ 0 ≤ e.value ∧ e.args = []) ∨ (e.op = 2 ∧ e.args = []) ∨ (e.op = 3 ∧ ∃ a, e.args = [a] ∧ goodEF a = true) ∨ ((e.op = 4 ∨ e.op = 5 ∨ e.op = 6 ∨ e.op = 7) ∧ e.args = []) ∨ ((e.op = 8 ∨ e.op = 9) ∧ ∃ a, e.args = [a] ∧ goodEF a = true) ∨ ((10 ≤ e.op ∧ e.op ≤ 22) ∧ ∃ a b, e.args = [a, b] ∧ goodEF a = true ∧ goodEF b = true) := by
  rw [goodEF_eq] at h
  simp only [Bool.and_eq_true, headEF, beq_iff_eq] at h
  have ha := h.1.1.1.1.1
  have hv := h.1.1.2
  have hg := h.2
  have l0 : e.args.length = 0 → e.args = [] := List.length_eq_zero_iff.1
  have l1 : e.args.length = 1 → ∃ a, e.args = [a] ∧ goodEF a = true := fun hl => by
    obtain ⟨a, e1⟩ := List.length_eq_one_iff.1 hl
    rw [e1] at hg
    simp only [goodEFs, Bool.and_true] at hg
    exact ⟨a, e1, hg⟩
  have l2 : e.args.length = 2 → ∃ a b, e.args = [a, b] ∧ goodEF a = true ∧ goodEF b = true := fun hl => by
    match he : e.args, hl with
    | [a, b], _ =>
      rw [he] at hg
      simp only [goodEFs, Bool.and_true, Bool.and_eq_true] at hg
      exact ⟨a, b, rfl, hg⟩
  unfold arityF at ha
  have hv' : ¬ e.value < 0 := by
    intro hx
    simp [hx] at hv
  split at ha
  · omega
  split at ha
  · exact .inr (.inr (.inr (.inr (.inr ⟨by omega, l2 (by omega)⟩))))
  split at ha
  · rename_i h3
    rcases h3 with h3 | h3 | h3
    · exact .inr (.inr (.inl ⟨h3, l1 (by omega)⟩))
    · exact .inr (.inr (.inr (.inr (.inl ⟨.inl h3, l1 (by omega)⟩))))
    · exact .inr (.inr (.inr (.inr (.inl ⟨.inr h3, l1 (by omega)⟩))))
  · have : e.op = 1 ∨ e.op = 2 ∨ e.op = 4 ∨ e.op = 5 ∨ e.op = 6 ∨ e.op = 7 := by omega
    rcases this with h1 | h1 | h1
    · exact .inl ⟨h1, by omega, l0 (by omega)⟩
    · exact .inr (.inl ⟨h1, l0 (by omega)⟩)
    · exact .inr (.inr (.inr (.inl ⟨h1, l0 (by omega)⟩)))
end Go.Abs
namespace Go.Abs
open Go
variable {P : Program} {env : Env} {pin : Nat} {σ : St} {Q : Exit → St → Prop}
variable {K : KT} {t : Tg K} {f : FuncId} {vals : List AVal} {d : Option Nat} {rest : List COp} {acc : Option Tr}
theorem VX.sb {b w : Bool} {r : Option Eff} {T : List Nat} (h1 : b = true → VX P env K t (b = w) r T d rest acc σ) (h2 : b = false → VX P env K t (b = w) r T d rest acc σ) : VX P env K t (b = w) r T d rest acc σ := by
  cases b
  · exact h2 rfl
  · exact h1 rfl
theorem CK.sb {b w : Bool} (h1 : b = true → CK P env K t (b = w) f vals d rest acc σ) (h2 : b = false → CK P env K t (b = w) f vals d rest acc σ) : CK P env K t (b = w) f vals d rest acc σ := by
  cases b
  · exact h2 rfl
  · exact h1 rfl
theorem VX.sa {b w : Bool} {q : Prop} {r : Option Eff} {T : List Nat} (h1 : b = true → VX P env K t (b = w ∧ q) r T d rest acc σ) (h2 : b = false → VX P env K t (b = w ∧ q) r T d rest acc σ) : VX P env K t (b = w ∧ q) r T d rest acc σ := by
  cases b
  · exact h2 rfl
  · exact h1 rfl
theorem CK.sa {b w : Bool} {q : Prop} (h1 : b = true → CK P env K t (b = w ∧ q) f vals d rest acc σ) (h2 : b = false → CK P env K t (b = w ∧ q) f vals d rest acc σ) : CK P env K t (b = w ∧ q) f vals d rest acc σ := by
  cases b
  · exact h2 rfl
  · exact h1 rfl
end Go.Abs
namespace Go.Abs
open Go
section
variable {P : Program} {env : Env} {pin : Nat} {σ σ' : St} {Q : Exit → St → Prop}
end
end Go.Abs
namespace Go.Abs
open Go
theorem goodVarF_mem {l : List VarD} {v : VarD} (h : l.any (fun v => !goodVarF v) = false) (hm : v ∈ l) : goodVarF v = true := by
  have := List.any_eq_false.1 h v hm
  simpa using this
theorem goodVarF_size {v : VarD} (h : goodVarF v = true) : 0 ≤ v.size := by
  unfold goodVarF at h
  split at h
  · cases h
  · rename_i h1
    simp at h1
    omega
theorem goodVarF_init {v : VarD} (h : goodVarF v = true) : v.init ≠ -9223372036854775808 := by
  unfold goodVarF at h
  split at h
  · cases h
  split at h
  · cases h
  simpa using h
theorem wrap_neg64 (n : Int) (h0 : -9223372036854775808 < n) (h1 : n ≤ 9223372036854775807) : IntKind.i64.wrap (0 - n) = -n := by
  rw [wrap64 _ (by omega) (by omega)]; omega
end Go.Abs
namespace Go.Abs
open Go
variable (l : List TkD)
theorem exF_bin (n : Nat) (lv : Nat) (k : Nat) : exF l (n + 1) (.bin lv) k = (if lv = 5 then exF l n .un k else (exF l n (.bin (lv + 1)) k).bind fun e k' => exF l n (.loop lv e) k') := rfl
theorem exF_loop (n : Nat) (lv : Nat) (e : Ex) (k : Nat) : exF l (n + 1) (.loop lv e) k = (if opF lv (peekF l k) = 0 then .ok e k else (exF l n (.bin (lv + 1)) (k + 1)).bind fun e2 k2 => exF l n (.loop lv (exB (opF lv (peekF l k)) e e2)) k2) := rfl
theorem exF_un (n : Nat) (k : Nat) : exF l (n + 1) .un k = (if isT l k [45] then (exF l n .un (k + 1)).bind fun e k' => .ok (exU 8 e) k' else if isT l k [33] then (exF l n .un (k + 1)).bind fun e k' => .ok (exU 9 e) k' else exF l n .prim k) := rfl
theorem exF_prim (n : Nat) (k : Nat) : exF l (n + 1) .prim k = (if isNum l k then (nmF l 0 k).bind fun v k' => .ok (exC v) k' else if isT l k [115, 101, 108, 102] then .ok (exK 4) (k + 1) else if isT l k [112, 114, 111, 99, 115] then .ok (exK 5) (k + 1) else if isT l k [102, 114, 111, 109] then .ok (exK 6) (k + 1) else if isT l k [118, 97, 108, 117, 101] then .ok (exK 7) (k + 1) else if isT l k [40] then (exF l n (.bin 0) (k + 1)).bind fun e k' => (expF l [41] k').bind fun _ k2 => .ok e k2 else (pnmF l k).bind fun nm k1 => if isT l k1 [91] then (exF l n (.bin 0) (k1 + 1)).bind fun e k' => (expF l [93] k').bind fun _ k2 => .ok (exI nm e) k2 else .ok (exN nm) k1) := rfl
theorem smF_block (n : Nat) (k : Nat) : smF l (n + 1) .block k = ((expF l [123] k).bind fun _ k1 => smF l n (.stmts []) k1) := rfl
theorem smF_stmts (n : Nat) (acc : List Sm) (k : Nat) : smF l (n + 1) (.stmts acc) k = (if isT l k [125] then .ok acc (k + 1) else (smF l n .stmt k).bind fun s k1 => smF l n (.stmts (acc ++ s)) k1) := rfl
theorem smF_stmt (n : Nat) (k : Nat) : smF l (n + 1) .stmt k = (if isT l k [105, 102] then (pexF l (k + 1)).bind fun e k1 => (smF l n .block k1).bind fun b k2 => if isT l k2 [101, 108, 115, 101] then (smF l n .block (k2 + 1)).bind fun c k3 => .ok [smE 3 [] exZ e b c] k3 else .ok [smE 3 [] exZ e b []] k2 else if isT l k [119, 104, 105, 108, 101] then (pexF l (k + 1)).bind fun e k1 => (smF l n .block k1).bind fun b k2 => .ok [smE 4 [] exZ e b []] k2 else if isT l k [115, 101, 110, 100] then (pexF l (k + 1)).bind fun p k1 => (expF l [44] k1).bind fun _ k2 => (pexF l k2).bind fun e k3 => (expF l [59] k3).bind fun _ k4 => .ok [smE 5 [] p e [] []] k4 else if isT l k [111, 117, 116, 112, 117, 116] then (pexF l (k + 1)).bind fun e k1 => (expF l [59] k1).bind fun _ k2 => .ok [smE 6 [] exZ e [] []] k2 else (pnmF l k).bind fun nm k1 => if isT l k1 [91] then (pexF l (k1 + 1)).bind fun p k2 => (expF l [93] k2).bind fun _ k3 => (expF l [61] k3).bind fun _ k4 => (pexF l k4).bind fun e k5 => (expF l [59] k5).bind fun _ k6 => .ok [smE 2 nm p e [] []] k6 else (expF l [61] k1).bind fun _ k4 => (pexF l k4).bind fun e k5 => (expF l [59] k5).bind fun _ k6 => .ok [smE 1 nm exZ e [] []] k6) := rfl
end Go.Abs
namespace Go.Abs
open Go
section
variable {l : List TkD}
theorem PR.bind_ok {α β : Type} {r : PR α} {f : α → Nat → PR β} {b : β} {k : Nat} (h : r.bind f = .ok b k) : ∃ a k', r = .ok a k' ∧ f a k' = .ok b k := by
  cases r with
  | ok a k' => exact ⟨a, k', rfl, h⟩
  | bad k' => cases h
  | out => cases h
def Ns.need (m : Nat) : Ns → Nat
  | .block => 3 * m + 1
  | .stmts _ => 3 * m + 3
  | .stmt => 3 * m + 2
def Ns.strict : Ns → Bool
  | _ => true
theorem pexF_on {k : Nat} (hk : k ≤ l.length) : (pexF l k).on k l.length := (pexF_past hk).on
theorem smF_past : ∀ (n : Nat) (nt : Ns) (k : Nat), k ≤ l.length → (smF l n nt k).past k l.length
  | 0, nt, k, hk => by cases nt <;> trivial
  | n + 1, .block, k, hk => by
    rw [smF_block]
    exact PR.past.bind (expF_past hk (by simp)) (fun _ k1 _ h1 => (smF_past n (.stmts []) k1 h1).on)
  | n + 1, .stmts acc, k, hk => by
    rw [smF_stmts]
    split
    · rename_i h
      have := isT_lt h (by simp)
      exact ⟨by omega, by omega⟩
    · exact PR.past.bind (smF_past n .stmt k hk) (fun s k1 _ h1 => (smF_past n _ k1 h1).on)
  | n + 1, .stmt, k, hk => by
    rw [smF_stmt]
    have semi : ∀ (s : List Sm) (k5 : Nat), k5 ≤ l.length → ((expF l [59] k5).bind fun _ k6 => PR.ok s k6).on k5 l.length := fun s k5 h5 => PR.on.bind (expF_past h5 (by simp)).on (fun _ k6 _ h6 => PR.ok_on _ h6)
    have valu : ∀ (g : Ex → List Sm) (k4 : Nat), k4 ≤ l.length → ((pexF l k4).bind fun e k5 => (expF l [59] k5).bind fun _ k6 => PR.ok (g e) k6).on k4 l.length := fun g k4 h4 => PR.on.bind (pexF_on h4) (fun e k5 _ h5 => semi _ _ h5)
    split
    · rename_i h
      have := isT_lt h (by simp)
      refine PR.on.lt (PR.on.bind (pexF_on (k := k + 1) (by omega)) (fun e k1 _ h1 => PR.on.bind (smF_past n .block k1 h1).on (fun b k2 _ h2 => ?_))) (by omega)
      split
      · rename_i h3
        have := isT_lt h3 (by simp)
        exact PR.on.le (PR.on.bind (smF_past n .block (k2 + 1) (by omega)).on (fun c k3 _ h3 => PR.ok_on _ h3)) (by omega)
      · exact PR.ok_on _ h2
    split
    · rename_i h
      have := isT_lt h (by simp)
      exact PR.on.lt (PR.on.bind (pexF_on (k := k + 1) (by omega)) (fun e k1 _ h1 => PR.on.bind (smF_past n .block k1 h1).on (fun b k2 _ h2 => PR.ok_on _ h2))) (by omega)
    split
    · rename_i h
      have := isT_lt h (by simp)
      exact PR.on.lt (PR.on.bind (pexF_on (k := k + 1) (by omega)) (fun p k1 _ h1 => PR.on.bind (expF_past h1 (by simp)).on (fun _ k2 _ h2 => valu _ k2 h2))) (by omega)
    split
    · rename_i h
      have := isT_lt h (by simp)
      exact PR.on.lt (valu _ (k + 1) (by omega)) (by omega)
    · refine PR.past.bind (pnmF_past hk) (fun nm k1 _ h1 => ?_)
      split
      · rename_i h
        have := isT_lt h (by simp)
        exact PR.on.le (PR.on.bind (pexF_on (k := k1 + 1) (by omega)) (fun p k2 _ h2 => PR.on.bind (expF_past h2 (by simp)).on (fun _ k3 _ h3 => PR.on.bind (expF_past h3 (by simp)).on (fun _ k4 _ h4 => valu _ k4 h4)))) (by omega)
      · exact PR.on.bind (expF_past h1 (by simp)).on (fun _ k4 _ h4 => valu _ k4 h4)
theorem smF_out : ∀ (n : Nat) (nt : Ns) (k : Nat), k ≤ l.length → nt.need (l.length - k) ≤ n → (smF l n nt k).isOut = false
  | 0, nt, k, hk, h => by cases nt <;> simp only [Ns.need] at h <;> omega
  | n + 1, .block, k, hk, h => by
    simp only [Ns.need] at h
    rw [smF_block]
    refine PR.bind_out expF_out (fun _ k1 he => ?_)
    have h1 := expF_past (l := l) (s := [123]) hk (by simp)
    rw [he] at h1
    exact smF_out n (.stmts []) k1 h1.2 (by have := h1.1; have := h1.2; simp only [Ns.need]; omega)
  | n + 1, .stmts acc, k, hk, h => by
    simp only [Ns.need] at h
    rw [smF_stmts]
    split
    · rfl
    · refine PR.bind_out (smF_out n .stmt k hk (by simp only [Ns.need]; omega)) (fun s k1 he => ?_)
      have h1 := smF_past (l := l) n .stmt k hk
      rw [he] at h1
      exact smF_out n _ k1 h1.2 (by have := h1.1; have := h1.2; simp only [Ns.need]; omega)
  | n + 1, .stmt, k, hk, h => by
    simp only [Ns.need] at h
    rw [smF_stmt]
    have semi : ∀ (s : List Sm) (k5 : Nat), ((expF l [59] k5).bind fun _ k6 => PR.ok s k6).isOut = false := fun s k5 => PR.bind_out expF_out (fun _ _ _ => rfl)
    have valu : ∀ (g : Ex → List Sm) (k4 : Nat), k4 ≤ l.length → ((pexF l k4).bind fun e k5 => (expF l [59] k5).bind fun _ k6 => PR.ok (g e) k6).isOut = false := fun g k4 h4 => PR.bind_out (pexF_out h4) (fun e k5 _ => semi _ _)
    have okx : ∀ {k k1 : Nat} {e : Ex}, k ≤ l.length → pexF l k = .ok e k1 → k < k1 ∧ k1 ≤ l.length := fun hk he => by have := pexF_past (l := l) hk; rw [he] at this; exact this
    have oke : ∀ {s : List UInt8} {k k1 : Nat} {u : Unit}, k ≤ l.length → s ≠ [] → expF l s k = .ok u k1 → k < k1 ∧ k1 ≤ l.length := fun hk hs he => by have := expF_past (l := l) hk hs; rw [he] at this; exact this
    have okb : ∀ {k k1 : Nat} {b : List Sm}, k ≤ l.length → smF l n .block k = .ok b k1 → k < k1 ∧ k1 ≤ l.length := fun hk he => by have := smF_past (l := l) n .block _ hk; rw [he] at this; exact this
    split
    · rename_i h0
      have := isT_lt h0 (by simp)
      refine PR.bind_out (pexF_out (by omega)) (fun e k1 he => ?_)
      have h1 := okx (by omega) he
      refine PR.bind_out (smF_out n .block k1 h1.2 (by simp only [Ns.need]; omega)) (fun b k2 hb => ?_)
      have h2 := okb h1.2 hb
      split
      · rename_i h3
        have := isT_lt h3 (by simp)
        exact PR.bind_out (smF_out n .block (k2 + 1) (by omega) (by simp only [Ns.need]; omega)) (fun _ _ _ => rfl)
      · rfl
    split
    · rename_i h0
      have := isT_lt h0 (by simp)
      refine PR.bind_out (pexF_out (by omega)) (fun e k1 he => ?_)
      have h1 := okx (by omega) he
      exact PR.bind_out (smF_out n .block k1 h1.2 (by simp only [Ns.need]; omega)) (fun _ _ _ => rfl)
    split
    · rename_i h0
      have := isT_lt h0 (by simp)
      refine PR.bind_out (pexF_out (by omega)) (fun p k1 he => ?_)
      have h1 := okx (by omega) he
      refine PR.bind_out expF_out (fun _ k2 hx => ?_)
      exact valu _ k2 (oke h1.2 (by simp) hx).2
    split
    · rename_i h0
      have := isT_lt h0 (by simp)
      exact valu _ (k + 1) (by omega)
    · refine PR.bind_out pnmF_out (fun nm k1 he => ?_)
      have h1 := pnmF_past (l := l) hk
      rw [he] at h1
      have h1' : k < k1 ∧ k1 ≤ l.length := h1
      split
      · rename_i h0
        have := isT_lt h0 (by simp)
        refine PR.bind_out (pexF_out (by omega)) (fun p k2 hp => ?_)
        have h2 := okx (by omega) hp
        refine PR.bind_out expF_out (fun _ k3 hx => ?_)
        have h3 := oke h2.2 (by simp) hx
        refine PR.bind_out expF_out (fun _ k4 hy => ?_)
        exact valu _ k4 (oke h3.2 (by simp) hy).2
      · refine PR.bind_out expF_out (fun _ k4 hy => ?_)
        exact valu _ k4 (oke h1'.2 (by simp) hy).2
theorem smF_one : ∀ {n k k' : Nat} {b : List Sm}, smF l n .stmt k = .ok b k' → ∃ s, b = [s]
  | 0, _, _, _, h => by cases h
  | n + 1, k, k', b, h => by
    rw [smF_stmt] at h
    have semi : ∀ {s : Sm} {k5 : Nat}, ((expF l [59] k5).bind fun _ k6 => PR.ok [s] k6) = .ok b k' → ∃ s, b = [s] := fun h => by
      obtain ⟨_, _, _, h2⟩ := PR.bind_ok h
      cases h2; exact ⟨_, rfl⟩
    have valu : ∀ {g : Ex → Sm} {k4 : Nat}, ((pexF l k4).bind fun e k5 => (expF l [59] k5).bind fun _ k6 => PR.ok [g e] k6) = .ok b k' → ∃ s, b = [s] := fun h => by
      obtain ⟨_, _, _, h2⟩ := PR.bind_ok h
      exact semi h2
    split at h
    · obtain ⟨_, _, _, h2⟩ := PR.bind_ok h
      obtain ⟨_, _, _, h3⟩ := PR.bind_ok h2
      split at h3
      · obtain ⟨_, _, _, h4⟩ := PR.bind_ok h3
        cases h4; exact ⟨_, rfl⟩
      · cases h3; exact ⟨_, rfl⟩
    split at h
    · obtain ⟨_, _, _, h2⟩ := PR.bind_ok h
      obtain ⟨_, _, _, h3⟩ := PR.bind_ok h2
      cases h3; exact ⟨_, rfl⟩
    split at h
    · obtain ⟨_, _, _, h2⟩ := PR.bind_ok h
      obtain ⟨_, _, _, h3⟩ := PR.bind_ok h2
      exact valu h3
    split at h
    · exact valu (g := fun e => smE 6 [] exZ e [] []) h
    · obtain ⟨nm, _, _, h2⟩ := PR.bind_ok h
      split at h2
      · obtain ⟨_, _, _, h3⟩ := PR.bind_ok h2
        obtain ⟨_, _, _, h4⟩ := PR.bind_ok h3
        obtain ⟨_, _, _, h5⟩ := PR.bind_ok h4
        exact valu h5
      · obtain ⟨_, _, _, h3⟩ := PR.bind_ok h2
        exact valu (g := fun e => smE 1 nm exZ e [] []) h3
theorem blockF_out {k : Nat} (hk : k ≤ l.length) : (blockF l k).isOut = false := smF_out _ _ k hk (by simp only [Ns.need]; omega)
theorem blockF_past {k : Nat} (hk : k ≤ l.length) : (blockF l k).past k l.length := smF_past _ _ k hk
end
end Go.Abs
namespace Go.Abs
open Go
section
variable {l : List TkD}
theorem pdcF_eq (n : Nat) (acc : List VarD) (k : Nat) : pdcF l (n + 1) acc k = (if isT l k [118, 97, 114] then (pnmF l (k + 1)).bind fun nm k1 => (initF l k1).bind fun v k2 => (expF l [59] k2).bind fun _ k3 => pdcF l n (acc ++ [⟨nm, 0, v⟩]) k3
    else if isT l k [97, 114, 114, 97, 121] then (pnmF l (k + 1)).bind fun nm k1 => (expF l [91] k1).bind fun _ k2 => (nmF l 1 k2).bind fun v k3 => (expF l [93] k3).bind fun _ k4 => (expF l [59] k4).bind fun _ k5 => pdcF l n (acc ++ [⟨nm, v, 0⟩]) k5
    else .ok acc k) := rfl
theorem hanF_eq (n : Nat) (p : PgD) (z : Seen) (k : Nat) : hanF l (n + 1) p z k = (if k < l.length then (expF l [111, 110] k).bind fun _ k1 =>
      if !z.s && isT l k1 [115, 116, 97, 114, 116] then (blockF l (k1 + 1)).bind fun b k2 => hanF l n { p with start := b } { z with s := true } k2
      else if !z.m && isT l k1 [109, 101, 115, 115, 97, 103, 101] then (blockF l (k1 + 1)).bind fun b k2 => hanF l n { p with message := b } { z with m := true } k2
      else if !z.t && isT l k1 [116, 105, 99, 107] then (blockF l (k1 + 1)).bind fun b k2 => hanF l n { p with tick := b } { z with t := true } k2
      else if !z.i && isT l k1 [105, 110, 112, 117, 116] then (blockF l (k1 + 1)).bind fun b k2 => hanF l n { p with input := b } { z with i := true } k2
      else .bad k1
    else .ok p k) := rfl
theorem initF_on {k : Nat} (hk : k ≤ l.length) : (initF l k).on k l.length := by
  unfold initF
  split
  · rename_i h
    have := isT_lt h (by simp)
    split
    · rename_i h2
      have := isT_lt h2 (by simp)
      exact PR.on.le (PR.on.bind (nmF_past (z := 0) (k := k + 2) (by omega)).on (fun v k' _ h2 => PR.ok_on _ h2)) (by omega)
    · exact PR.on.le (nmF_past (by omega)).on (by omega)
  · exact PR.ok_on _ hk
theorem initF_out {k : Nat} : (initF l k).isOut = false := by
  unfold initF
  split
  · split
    · exact PR.bind_out nmF_out (fun _ _ _ => rfl)
    · exact nmF_out
  · rfl
theorem pdcF_on : ∀ (n : Nat) (acc : List VarD) (k : Nat), k ≤ l.length → (pdcF l n acc k).on k l.length
  | 0, _, _, _ => trivial
  | n + 1, acc, k, hk => by
    rw [pdcF_eq]
    split
    · rename_i h
      have := isT_lt h (by simp)
      exact PR.on.le (PR.on.bind (pnmF_past (k := k + 1) (by omega)).on (fun nm k1 _ h1 => PR.on.bind (initF_on h1) (fun v k2 _ h2 => PR.on.bind (expF_past h2 (by simp)).on (fun _ k3 _ h3 => pdcF_on n _ k3 h3)))) (by omega)
    split
    · rename_i h
      have := isT_lt h (by simp)
      exact PR.on.le (PR.on.bind (pnmF_past (k := k + 1) (by omega)).on (fun nm k1 _ h1 => PR.on.bind (expF_past h1 (by simp)).on (fun _ k2 _ h2 => PR.on.bind (nmF_past h2).on (fun v k3 _ h3 => PR.on.bind (expF_past h3 (by simp)).on (fun _ k4 _ h4 => PR.on.bind (expF_past h4 (by simp)).on (fun _ k5 _ h5 => pdcF_on n _ k5 h5)))))) (by omega)
    · exact PR.ok_on _ hk
theorem pdcF_out : ∀ (n : Nat) (acc : List VarD) (k : Nat), k ≤ l.length → l.length - k + 1 ≤ n → (pdcF l n acc k).isOut = false
  | 0, _, k, hk, h => by omega
  | n + 1, acc, k, hk, h => by
    rw [pdcF_eq]
    have on' : ∀ {α : Type} {r : PR α} {a : α} {k k1 : Nat}, r.on k l.length → r = .ok a k1 → k ≤ k1 ∧ k1 ≤ l.length := fun h e => by rw [e] at h; exact h
    split
    · rename_i h0
      have := isT_lt h0 (by simp)
      refine PR.bind_out pnmF_out (fun nm k1 e1 => ?_)
      have h1 := on' (pnmF_past (k := k + 1) (by omega)).on e1
      refine PR.bind_out initF_out (fun v k2 e2 => ?_)
      have h2 := on' (initF_on h1.2) e2
      refine PR.bind_out expF_out (fun _ k3 e3 => ?_)
      have h3 := on' (expF_past h2.2 (by simp)).on e3
      exact pdcF_out n _ k3 h3.2 (by omega)
    split
    · rename_i h0
      have := isT_lt h0 (by simp)
      refine PR.bind_out pnmF_out (fun nm k1 e1 => ?_)
      have h1 := on' (pnmF_past (k := k + 1) (by omega)).on e1
      refine PR.bind_out expF_out (fun _ k2 e2 => ?_)
      have h2 := on' (expF_past h1.2 (by simp)).on e2
      refine PR.bind_out nmF_out (fun v k3 e3 => ?_)
      have h3 := on' (nmF_past h2.2).on e3
      refine PR.bind_out expF_out (fun _ k4 e4 => ?_)
      have h4 := on' (expF_past h3.2 (by simp)).on e4
      refine PR.bind_out expF_out (fun _ k5 e5 => ?_)
      have h5 := on' (expF_past h4.2 (by simp)).on e5
      exact pdcF_out n _ k5 h5.2 (by omega)
    · rfl
theorem hanF_out : ∀ (n : Nat) (p : PgD) (z : Seen) (k : Nat), k ≤ l.length → l.length - k + 1 ≤ n → (hanF l n p z k).isOut = false
  | 0, _, _, k, hk, h => by omega
  | n + 1, p, z, k, hk, h => by
    rw [hanF_eq]
    split
    · refine PR.bind_out expF_out (fun _ k1 e1 => ?_)
      have h1 : k < k1 ∧ k1 ≤ l.length := by have := expF_past (l := l) (s := [111, 110]) hk (by simp); rw [e1] at this; exact this
      have one : ∀ {s : List UInt8} (f : List Sm → PgD) (z' : Seen), isT l k1 s = true → s ≠ [] → ((blockF l (k1 + 1)).bind fun b k2 => hanF l n (f b) z' k2).isOut = false := fun f z' hs hne => by
        have hlt := isT_lt hs hne
        refine PR.bind_out (blockF_out (by omega)) (fun b k2 e2 => ?_)
        have h2 : k1 + 1 < k2 ∧ k2 ≤ l.length := by have := blockF_past (l := l) (k := k1 + 1) (by omega); rw [e2] at this; exact this
        exact hanF_out n _ _ k2 h2.2 (by omega)
      split
      · rename_i h2; exact one (fun b => { p with start := b }) _ (by simp at h2; exact h2.2) (by simp)
      split
      · rename_i h2; exact one (fun b => { p with message := b }) _ (by simp at h2; exact h2.2) (by simp)
      split
      · rename_i h2; exact one (fun b => { p with tick := b }) _ (by simp at h2; exact h2.2) (by simp)
      split
      · rename_i h2; exact one (fun b => { p with input := b }) _ (by simp at h2; exact h2.2) (by simp)
      · rfl
    · rfl
theorem progF_out : (progF l).isOut = false := by
  unfold progF
  refine PR.bind_out (pdcF_out _ _ 0 (by omega) (by omega)) (fun vs k e => ?_)
  have h1 : 0 ≤ k ∧ k ≤ l.length := by have := pdcF_on (l := l) (l.length + 1) [] 0 (by omega); rw [e] at this; exact this
  exact hanF_out _ _ _ k h1.2 (by omega)
end
end Go.Abs
namespace Go.Abs
open Go
section
variable (l : List TkD)
def hanB (p : PgD) (z : Seen) (k1 : Nat) : PR (PgD × Seen) :=
  if !z.s && isT l k1 [115, 116, 97, 114, 116] then (blockF l (k1 + 1)).bind fun b k2 => .ok ({ p with start := b }, { z with s := true }) k2
  else if !z.m && isT l k1 [109, 101, 115, 115, 97, 103, 101] then (blockF l (k1 + 1)).bind fun b k2 => .ok ({ p with message := b }, { z with m := true }) k2
  else if !z.t && isT l k1 [116, 105, 99, 107] then (blockF l (k1 + 1)).bind fun b k2 => .ok ({ p with tick := b }, { z with t := true }) k2
  else if !z.i && isT l k1 [105, 110, 112, 117, 116] then (blockF l (k1 + 1)).bind fun b k2 => .ok ({ p with input := b }, { z with i := true }) k2
  else .bad k1
def hanS (p : PgD) (z : Seen) (k : Nat) : PR (PgD × Seen) := (expF l [111, 110] k).bind fun _ k1 => hanB l p z k1
theorem PR.bind_assoc {α β γ : Type} (r : PR α) (f : α → Nat → PR β) (g : β → Nat → PR γ) : (r.bind f).bind g = r.bind fun a k => (f a k).bind g := by cases r <;> rfl
theorem hanF_step (n : Nat) (p : PgD) (z : Seen) (k : Nat) : hanF l (n + 1) p z k = if k < l.length then (hanS l p z k).bind fun q k2 => hanF l n q.1 q.2 k2 else .ok p k := by
  rw [hanF_eq]
  split
  · unfold hanS
    rw [PR.bind_assoc]
    congr 1
    funext _ k1
    unfold hanB
    repeat' split
    all_goals first | rfl | (rw [PR.bind_assoc]; rfl)
  · rfl
theorem hanB_on (p : PgD) (z : Seen) (k1 : Nat) (h : k1 ≤ l.length) : (hanB l p z k1).on k1 l.length := by
  have one : ∀ {s : List UInt8} (f : List Sm → PgD × Seen), isT l k1 s = true → s ≠ [] → ((blockF l (k1 + 1)).bind fun b k2 => PR.ok (f b) k2).on k1 l.length := fun f hs hne => by
    have hlt := isT_lt hs hne
    exact PR.on.le (PR.on.bind (blockF_past (by omega)).on (fun b k2 _ h2 => PR.ok_on _ h2)) (by omega)
  unfold hanB
  split
  · rename_i h2; exact one (fun b => ({ p with start := b }, _)) (by simp at h2; exact h2.2) (by simp)
  split
  · rename_i h2; exact one (fun b => ({ p with message := b }, _)) (by simp at h2; exact h2.2) (by simp)
  split
  · rename_i h2; exact one (fun b => ({ p with tick := b }, _)) (by simp at h2; exact h2.2) (by simp)
  split
  · rename_i h2; exact one (fun b => ({ p with input := b }, _)) (by simp at h2; exact h2.2) (by simp)
  · exact ⟨Nat.le_refl _, h⟩
theorem hanS_past (p : PgD) (z : Seen) (k : Nat) (h : k ≤ l.length) : (hanS l p z k).past k l.length := by
  unfold hanS
  exact PR.past.bind (expF_past h (by simp)) (fun _ k1 _ h1 => hanB_on l p z k1 h1)
theorem hanS_out (p : PgD) (z : Seen) (k : Nat) (h : k ≤ l.length) : (hanS l p z k).isOut = false := by
  unfold hanS
  refine PR.bind_out expF_out (fun _ k1 e1 => ?_)
  have h1 : k < k1 ∧ k1 ≤ l.length := by have := expF_past (l := l) (s := [111, 110]) h (by simp); rw [e1] at this; exact this
  have one : ∀ {s : List UInt8} (f : List Sm → PgD × Seen), isT l k1 s = true → s ≠ [] → ((blockF l (k1 + 1)).bind fun b k2 => PR.ok (f b) k2).isOut = false := fun f hs hne => by
    have hlt := isT_lt hs hne
    exact PR.bind_out (blockF_out (by omega)) (fun b k2 e2 => rfl)
  unfold hanB
  split
  · rename_i h2; exact one (fun b => ({ p with start := b }, _)) (by simp at h2; exact h2.2) (by simp)
  split
  · rename_i h2; exact one (fun b => ({ p with message := b }, _)) (by simp at h2; exact h2.2) (by simp)
  split
  · rename_i h2; exact one (fun b => ({ p with tick := b }, _)) (by simp at h2; exact h2.2) (by simp)
  split
  · rename_i h2; exact one (fun b => ({ p with input := b }, _)) (by simp at h2; exact h2.2) (by simp)
  · rfl
end
end Go.Abs
namespace Go.Abs
open Go
def Off (s : List UInt8) : Nat → List TkD → Prop
  | _, [] => True
  | k, t :: r => ∃ a : Nat, t.pos = a ∧ k ≤ a ∧ 0 < (wordT t).length ∧ a + (wordT t).length ≤ s.length ∧ cut s a (a + (wordT t).length) = wordT t ∧ Off s (a + (wordT t).length) r
theorem Off.mono {s : List UInt8} {k k' : Nat} {l : List TkD} (h : Off s k l) (hk : k' ≤ k) : Off s k' l := by
  cases l with
  | nil => trivial
  | cons t r => obtain ⟨a, h1, h2, h3⟩ := h; exact ⟨a, h1, by omega, h3⟩
theorem one_word {s : List UInt8} {k e : Nat} {t : TkD} (hk : k < s.length) (h : oneF s k = (t, (e : Int), 0)) : t.pos = k ∧ cut s k e = wordT t ∧ e = k + (wordT t).length ∧ k < e ∧ e ≤ s.length := by
  obtain ⟨hg, hp, h1, h2, _⟩ := one_good s k e t hk h
  have hw := hg.word
  have hl := cut_len s k e h2
  exact ⟨hp, hw.symm, by rw [hw, hl]; omega, h1, h2⟩
theorem Sc.len {s : List UInt8} {k : Nat} {l : List TkD} (h : Sc s k l) : l.length ≤ s.length - k := by
  induction h with
  | fin _ => simp
  | blank _ _ _ ih => omega
  | @hsh k l hk hh _ ih => have := (hash_gt' s k hk hh); omega
  | @tok k e t l hk hb hh ho _ ih =>
    obtain ⟨h1, h2, h3, h4, h5⟩ := one_word hk ho
    simp only [List.length_cons]; omega
theorem Sc.vals {s : List UInt8} {k : Nat} {l : List TkD} (h : Sc s k l) : ∀ t ∈ l, t.value ≤ 9223372036854775807 ∧ 0 < (wordT t).length ∧ (wordT t).length ≤ s.length ∧ Good t (wordT t) := by
  intro t ht
  obtain ⟨e, a, _, h2, h3, h4, hg⟩ := h.good t ht
  have hw := hg.word
  have hl := cut_len s a e h4
  refine ⟨?_, by rw [hw, hl]; omega, by rw [hw, hl]; omega, by rw [hw]; exact hg⟩
  rcases hg.kinds with ⟨_, _, h, _⟩ | ⟨_, _, h, _, h5⟩ | ⟨_, _, h, _⟩
  all_goals rw [h]
  all_goals omega
end Go.Abs
namespace Go.Abs
open Go
structure TokOK (t : TkD) : Prop where
  k : t.kind = 1 ∨ t.kind = 2 ∨ t.kind = 3
  k1 : t.kind = 1 → ∃ c r, t.text = c :: r ∧ isL c = true
  k2 : t.kind = 2 → t.text = [] ∧ 0 ≤ t.value
  k3 : t.kind = 3 → ∃ c r, t.text = c :: r ∧ isL c = false
def AllOK (l : List TkD) : Prop := ∀ k, k < l.length → TokOK (l.getD k tk0)
def signy (s : List UInt8) : Bool := match s with | c :: _ => !isL c | [] => false
def wordy (s : List UInt8) : Bool := match s with | c :: _ => isL c | [] => false
theorem TokOK.sign {t : TkD} (h : TokOK t) {s : List UInt8} (hs : signy s = true) (he : t.text = s) : t.kind = 3 := by
  cases s with
  | nil => simp [signy] at hs
  | cons c r =>
    have hc : isL c = false := by simpa [signy] using hs
    rcases h.k with h1 | h1 | h1
    · obtain ⟨c', r', e, h2⟩ := h.k1 h1
      rw [he] at e
      cases e
      rw [hc] at h2; cases h2
    · have := (h.k2 h1).1
      rw [he] at this; cases this
    · exact h1
theorem TokOK.word {t : TkD} (h : TokOK t) {s : List UInt8} (hs : wordy s = true) (he : t.text = s) : t.kind = 1 := by
  cases s with
  | nil => simp [wordy] at hs
  | cons c r =>
    have hc : isL c = true := by simpa [wordy] using hs
    rcases h.k with h1 | h1 | h1
    · exact h1
    · have := (h.k2 h1).1
      rw [he] at this; cases this
    · obtain ⟨c', r', e, h2⟩ := h.k3 h1
      rw [he] at e
      cases e
      rw [hc] at h2; cases h2
theorem isT_eq {l : List TkD} {k : Nat} {s : List UInt8} (hk : k < l.length) : isT l k s = ((l.getD k tk0).text == s) := by
  unfold isT peekF
  rw [if_pos hk]
theorem isT_no {l : List TkD} {k : Nat} {s : List UInt8} (hk : ¬ k < l.length) (hs : s ≠ []) : isT l k s = false := by
  cases h : isT l k s with
  | false => rfl
  | true => exact absurd (isT_lt h hs) hk
theorem signy_ne {s : List UInt8} (h : signy s = true) : s ≠ [] := by rintro rfl; cases h
theorem wordy_ne {s : List UInt8} (h : wordy s = true) : s ≠ [] := by rintro rfl; cases h
theorem sign_test {l : List TkD} (hT : AllOK l) {k : Nat} {s : List UInt8} (hk : k < l.length) (hs : signy s = true) : (((l.getD k tk0).kind == 3) && ((l.getD k tk0).text == s)) = isT l k s := by
  rw [isT_eq hk]
  by_cases he : (l.getD k tk0).text = s
  · rw [(hT k hk).sign hs he]
    simp
  · have : ((l.getD k tk0).text == s) = false := by simpa using he
    rw [this, Bool.and_false]
theorem word_test {l : List TkD} (hT : AllOK l) {k : Nat} {s : List UInt8} (hk : k < l.length) (hs : wordy s = true) : (((l.getD k tk0).kind == 1) && ((l.getD k tk0).text == s)) = isT l k s := by
  rw [isT_eq hk]
  by_cases he : (l.getD k tk0).text = s
  · rw [(hT k hk).word hs he]
    simp
  · have : ((l.getD k tk0).text == s) = false := by simpa using he
    rw [this, Bool.and_false]
end Go.Abs
namespace Go.Abs
open Go
variable {l : List TkD}
theorem isNum_eq {k : Nat} (hk : k < l.length) : isNum l k = ((l.getD k tk0).kind == 2) := by unfold isNum; simp [hk]
theorem isT_kind {k : Nat} {s : List UInt8} (hT : AllOK l) (hk : k < l.length) (hs : wordy s = true) (h : (l.getD k tk0).kind ≠ 1) : isT l k s = false := by
  cases hc : isT l k s with
  | false => rfl
  | true => rw [isT_eq hk] at hc; exact absurd ((hT k hk).word hs (by simpa using hc)) h
theorem isT_kind3 {k : Nat} {s : List UInt8} (hT : AllOK l) (hk : k < l.length) (hs : signy s = true) (h : (l.getD k tk0).kind ≠ 3) : isT l k s = false := by
  cases hc : isT l k s with
  | false => rfl
  | true => rw [isT_eq hk] at hc; exact absurd ((hT k hk).sign hs (by simpa using hc)) h
theorem prim_end {m k : Nat} (hk : ¬ k < l.length) : exF l (m + 1) .prim k = .bad k := by
  rw [exF_prim]
  have h0 : isNum l k = false := by unfold isNum; simp [hk]
  have h1 : pnmF l k = .bad k := by unfold pnmF; rw [if_neg (fun h => hk h.1)]
  simp [h0, isT_no hk, h1, PR.bind]
theorem prim_two {m k : Nat} (hT : AllOK l) (hk : k < l.length) (h : (l.getD k tk0).kind = 2) : exF l (m + 1) .prim k = .ok (exC (l.getD k tk0).value) (k + 1) := by
  rw [exF_prim, isNum_eq hk, h]
  have h2 := ((hT k hk).k2 h).2
  have : nmF l 0 k = .ok (l.getD k tk0).value (k + 1) := by unfold nmF; rw [if_pos ⟨hk, h, h2⟩]
  rw [this]
  rfl
theorem prim_three {m k : Nat} (hT : AllOK l) (hk : k < l.length) (h : (l.getD k tk0).kind = 3) (hp : isT l k [40] = false) : exF l (m + 1) .prim k = .bad k := by
  have hn : ¬ (l.getD k tk0).kind = 1 := by rw [h]; decide
  have h1 : pnmF l k = .bad k := by unfold pnmF; rw [if_neg (fun g => hn g.2.1)]
  rw [exF_prim, isNum_eq hk, h, isT_kind hT hk rfl hn, isT_kind hT hk rfl hn, isT_kind hT hk rfl hn, isT_kind hT hk rfl hn, hp, h1]
  rfl
theorem prim_paren {m k : Nat} (hT : AllOK l) (hk : k < l.length) (h : (l.getD k tk0).kind = 3) (hp : isT l k [40] = true) : exF l (m + 1) .prim k = (exF l m (.bin 0) (k + 1)).bind fun e k' => (expF l [41] k').bind fun _ k2 => .ok e k2 := by
  have hn : ¬ (l.getD k tk0).kind = 1 := by rw [h]; decide
  rw [exF_prim, isNum_eq hk, h, isT_kind hT hk rfl hn, isT_kind hT hk rfl hn, isT_kind hT hk rfl hn, isT_kind hT hk rfl hn, hp]
  rfl
theorem prim_one {m k : Nat} (hT : AllOK l) (hk : k < l.length) (h : (l.getD k tk0).kind = 1) : exF l (m + 1) .prim k =
    if (l.getD k tk0).text = [115, 101, 108, 102] then .ok (exK 4) (k + 1) else if (l.getD k tk0).text = [112, 114, 111, 99, 115] then .ok (exK 5) (k + 1) else if (l.getD k tk0).text = [102, 114, 111, 109] then .ok (exK 6) (k + 1) else if (l.getD k tk0).text = [118, 97, 108, 117, 101] then .ok (exK 7) (k + 1)
    else (pnmF l k).bind fun nm k1 => if isT l k1 [91] then (exF l m (.bin 0) (k1 + 1)).bind fun e k' => (expF l [93] k').bind fun _ k2 => .ok (exI nm e) k2 else .ok (exN nm) k1 := by
  have hp : isT l k [40] = false := isT_kind3 hT hk rfl (by rw [h]; decide)
  rw [exF_prim, isNum_eq hk, h, hp, isT_eq hk, isT_eq hk, isT_eq hk, isT_eq hk]
  simp only [beq_iff_eq]
  rfl
end Go.Abs
