/- A part of the walk (Tryz_P4): its theorems have no condition beyond what they state. -/
import Derived.Test.YtfinhhblcdkpgaaGreatDoorP3
import Derived.Test.YtfinhhblcdkpgaaGreatDoorLib3
set_option maxRecDepth 100000
set_option maxHeartbeats 64000000
set_option linter.unusedSimpArgs false
set_option linter.unusedVariables false
set_option linter.defProp false
namespace Go.Proofs.YtfinhhblcdkpgaaGreatDoor
open Go Go.Abs Go.RowKit
def zlO (f:FuncId) (args:List AVal) (l:List TkD) (n k:Nat):PR Ex→Prop
 |.ok e k'=>AC Tryz.prog gl f (.ref 0 0::args) (psO l n k) (exA e) (psO l n k')
 |.bad k'=>AP Tryz.prog gl f (.ref 0 0::args) (psO l n k) (fv l n k') (psO l n k')
 |.out=>True
theorem zpm (l:List TkD) (n m k:Nat) (hl:l.length≤100000) (hk:k≤l.length)
  (hU:∀ k,k≤l.length→(exF l m .un k).isOut=false→zlO 201 [] l n k (exF l m .un k))
  (hP:∀ k,k≤l.length→(exF l m .prim k).isOut=false→zlO 204 [] l n k (exF l m .prim k))
  (ho:(exF l (m+1) .un k).isOut=false):zlO 201 [] l n k (exF l (m+1) .un k):=by
 rw [zuZ] at ho ⊢
 by_cases h1:isT l k [45]=true
 ·have cA:=zaQ l n k _ h1 (by omega)
  have hlt:=zaC h1 (by simp)
  rw [if_pos h1] at ho ⊢
  have c:=hU (k+1) (by omega)
  cases hr:exF l m .un (k+1) with
  |ok e k'=>
   rw [hr] at c
   have c1:AC _ _ _ _ _ _ _:=c rfl
   show AC _ _ _ _ _ _ _
   refine zay (fun _=>1) 2 zo6 ?_
   (repeat' (first|refine Va (fA4 @kz zkb @exA.eq_1 @kA) ?_|(with_reducible first|refine SB.c ?_ ?_<;>intro _|exact zac)|refine dC1 zaa cA ?_|refine dC1 zdI c1 ?_|with_reducible refine zab ?_|omega))
   (refine zaJ.mk [0] ?_ ?_<;>simp [kwr,zkb,exU,exA,Ex.op,Ex.value,Ex.name,Ex.slot,Ex.size,Ex.args,zaY,zaq])
  |bad k'=>
   rw [hr] at c
   have c1:AP _ _ _ _ _ _ _:=c rfl
   show AP _ _ _ _ _ _ _
   refine zbr (fun _=>1) 2 zo6 ?_
   (repeat' (first|refine Va (fA4 @kz zkb @exA.eq_1 @kA) ?_|(with_reducible first|refine SB.c ?_ ?_<;>intro _|exact zac|refine fun (_:List AVal)=>?_)|refine dC1 zaa cA ?_|refine CK.dp [0] [] zdI c1 ?_|with_reducible refine zab ?_|omega))
   (refine zbT.mk [0] ?_<;>simp [kwt])
  |out=>rw [hr] at ho;cases ho
 ·have cA:=zaj l n k _ (by simpa using h1)
  rw [if_neg h1] at ho ⊢
  by_cases h2:isT l k [33]=true
  ·have cB:=zaQ l n k _ h2 (by omega)
   have hlt:=zaC h2 (by simp)
   rw [if_pos h2] at ho ⊢
   have c:=hU (k+1) (by omega)
   cases hr:exF l m .un (k+1) with
   |ok e k'=>
    rw [hr] at c
    have c1:AC _ _ _ _ _ _ _:=c rfl
    show AC _ _ _ _ _ _ _
    refine zay (fun _=>1) 2 zo6 ?_
    (repeat' (first|refine Va (fA4 @kz zkb @exA.eq_1 @kA) ?_|(with_reducible first|refine SB.c ?_ ?_<;>intro _|exact zac)|refine dC1 zaa cA ?_|refine dC1 zaa cB ?_|refine dC1 zdI c1 ?_|with_reducible refine zab ?_|omega))
    (refine zaJ.mk [0] ?_ ?_<;>simp [kwr,zkb,exU,exA,Ex.op,Ex.value,Ex.name,Ex.slot,Ex.size,Ex.args,zaY,zaq])
   |bad k'=>
    rw [hr] at c
    have c1:AP _ _ _ _ _ _ _:=c rfl
    show AP _ _ _ _ _ _ _
    refine zbr (fun _=>1) 2 zo6 ?_
    (repeat' (first|refine Va (fA4 @kz zkb @exA.eq_1 @kA) ?_|(with_reducible first|refine SB.c ?_ ?_<;>intro _|exact zac|refine fun (_:List AVal)=>?_)|refine dC1 zaa cA ?_|refine dC1 zaa cB ?_|refine CK.dp [0] [] zdI c1 ?_|with_reducible refine zab ?_|omega))
    (refine zbT.mk [0] ?_<;>simp [kwt])
   |out=>rw [hr] at ho;cases ho
  ·have cB:=zaj l n k _ (by simpa using h2)
   rw [if_neg h2] at ho ⊢
   have c:=hP k hk ho
   cases hr:exF l m .prim k with
   |ok e k'=>
    rw [hr] at c
    have c1:AC _ _ _ _ _ _ _:=c
    show AC _ _ _ _ _ _ _
    refine zay (fun _=>1) 2 zo6 ?_
    (repeat' (first|refine Va (fA4 @kz zkb @exA.eq_1 @kA) ?_|(with_reducible first|refine SB.c ?_ ?_<;>intro _|exact zac)|refine dC1 zaa cA ?_|refine dC1 zaa cB ?_|refine dC1 zlv c1 ?_|with_reducible refine zab ?_|omega))
    (refine zaJ.mk [0] ?_ ?_<;>simp [kwr,zkb,exA,zjs,zfv])
   |bad k'=>
    rw [hr] at c
    have c1:AP _ _ _ _ _ _ _:=c
    show AP _ _ _ _ _ _ _
    refine zbr (fun _=>1) 2 zo6 ?_
    (repeat' (first|refine Va (fA4 @kz zkb @exA.eq_1 @kA) ?_|(with_reducible first|refine SB.c ?_ ?_<;>intro _|exact zac|refine fun (_:List AVal)=>?_)|refine dC1 zaa cA ?_|refine dC1 zaa cB ?_|refine CK.dp [0] [] zlv c1 ?_|with_reducible refine zab ?_|omega))
    (refine zbT.mk [0] ?_<;>simp [kwt])
   |out=>rw [hr] at ho;cases ho
end Go.Proofs.YtfinhhblcdkpgaaGreatDoor
