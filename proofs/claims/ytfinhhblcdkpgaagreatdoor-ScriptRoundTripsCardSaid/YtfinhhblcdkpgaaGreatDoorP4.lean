/- A part of the walk (Tryz_P4): its theorems have no condition beyond what they state. -/
import Derived.Test.YtfinhhblcdkpgaaGreatDoorP3
import Derived.Test.YtfinhhblcdkpgaaGreatDoorLib3
set_option maxRecDepth 100000
set_option maxHeartbeats 64000000
set_option linter.unusedSimpArgs false
set_option linter.unusedVariables false
set_option linter.defProp false
namespace Go.Proofs.YtfinhhblcdkpgaaGreatDoor
open Go Go.Abs Go.RowKit
def zmk (f:FuncId) (args:List AVal) (l:List TkD) (n k:Nat):PR Ex→Prop
 |.ok e k'=>AC Tryz.prog gl f (.ref 0 0::args) (psO l n k) (exA e) (psO l n k')
 |.bad k'=>AP Tryz.prog gl f (.ref 0 0::args) (psO l n k) (fv l n k') (psO l n k')
 |.out=>True
theorem zqe (l:List TkD) (n m k:Nat) (hl:l.length≤100000) (hk:k≤l.length)
  (hU:∀ k,k≤l.length→(exF l m .un k).isOut=false→zmk 201 [] l n k (exF l m .un k))
  (hP:∀ k,k≤l.length→(exF l m .prim k).isOut=false→zmk 204 [] l n k (exF l m .prim k))
  (ho:(exF l (m+1) .un k).isOut=false):zmk 201 [] l n k (exF l (m+1) .un k):=by
 rw [zio] at ho ⊢
 by_cases h1:isT l k [45]=true
 ·have cA:=zaN l n k _ h1 (by omega)
  have hlt:=zaz h1 (by simp)
  rw [if_pos h1] at ho ⊢
  have c:=hU (k+1) (by omega)
  cases hr:exF l m .un (k+1) with
  |ok e k'=>
   rw [hr] at c
   have c1:AC _ _ _ _ _ _ _:=c rfl
   show AC _ _ _ _ _ _ _
   refine zax (fun _=>1) 2 zpU ?_
   (repeat' (first|refine Va (fA4 @kz zky @exA.eq_1 @kA) ?_|(with_reducible first|refine SB.c ?_ ?_<;>intro _|exact zad)|refine dC1 zaa cA ?_|refine dC1 zdZ c1 ?_|with_reducible refine zac ?_|omega))
   (refine zaI.mk [0] ?_ ?_<;>simp [kwr,zky,exU,exA,Ex.op,Ex.value,Ex.name,Ex.slot,Ex.size,Ex.args,za0,zay])
  |bad k'=>
   rw [hr] at c
   have c1:AP _ _ _ _ _ _ _:=c rfl
   show AP _ _ _ _ _ _ _
   refine zbv (fun _=>1) 2 zpU ?_
   (repeat' (first|refine Va (fA4 @kz zky @exA.eq_1 @kA) ?_|(with_reducible first|refine SB.c ?_ ?_<;>intro _|exact zad|refine fun (_:List AVal)=>?_)|refine dC1 zaa cA ?_|refine CK.dp [0] [] zdZ c1 ?_|with_reducible refine zac ?_|omega))
   (refine zb5.mk [0] ?_<;>simp [kwt])
  |out=>rw [hr] at ho;cases ho
 ·have cA:=zai l n k _ (by simpa using h1)
  rw [if_neg h1] at ho ⊢
  by_cases h2:isT l k [33]=true
  ·have cB:=zaN l n k _ h2 (by omega)
   have hlt:=zaz h2 (by simp)
   rw [if_pos h2] at ho ⊢
   have c:=hU (k+1) (by omega)
   cases hr:exF l m .un (k+1) with
   |ok e k'=>
    rw [hr] at c
    have c1:AC _ _ _ _ _ _ _:=c rfl
    show AC _ _ _ _ _ _ _
    refine zax (fun _=>1) 2 zpU ?_
    (repeat' (first|refine Va (fA4 @kz zky @exA.eq_1 @kA) ?_|(with_reducible first|refine SB.c ?_ ?_<;>intro _|exact zad)|refine dC1 zaa cA ?_|refine dC1 zaa cB ?_|refine dC1 zdZ c1 ?_|with_reducible refine zac ?_|omega))
    (refine zaI.mk [0] ?_ ?_<;>simp [kwr,zky,exU,exA,Ex.op,Ex.value,Ex.name,Ex.slot,Ex.size,Ex.args,za0,zay])
   |bad k'=>
    rw [hr] at c
    have c1:AP _ _ _ _ _ _ _:=c rfl
    show AP _ _ _ _ _ _ _
    refine zbv (fun _=>1) 2 zpU ?_
    (repeat' (first|refine Va (fA4 @kz zky @exA.eq_1 @kA) ?_|(with_reducible first|refine SB.c ?_ ?_<;>intro _|exact zad|refine fun (_:List AVal)=>?_)|refine dC1 zaa cA ?_|refine dC1 zaa cB ?_|refine CK.dp [0] [] zdZ c1 ?_|with_reducible refine zac ?_|omega))
    (refine zb5.mk [0] ?_<;>simp [kwt])
   |out=>rw [hr] at ho;cases ho
  ·have cB:=zai l n k _ (by simpa using h2)
   rw [if_neg h2] at ho ⊢
   have c:=hP k hk ho
   cases hr:exF l m .prim k with
   |ok e k'=>
    rw [hr] at c
    have c1:AC _ _ _ _ _ _ _:=c
    show AC _ _ _ _ _ _ _
    refine zax (fun _=>1) 2 zpU ?_
    (repeat' (first|refine Va (fA4 @kz zky @exA.eq_1 @kA) ?_|(with_reducible first|refine SB.c ?_ ?_<;>intro _|exact zad)|refine dC1 zaa cA ?_|refine dC1 zaa cB ?_|refine dC1 zlW c1 ?_|with_reducible refine zac ?_|omega))
    (refine zaI.mk [0] ?_ ?_<;>simp [kwr,zky,exA,zjF,zfH])
   |bad k'=>
    rw [hr] at c
    have c1:AP _ _ _ _ _ _ _:=c
    show AP _ _ _ _ _ _ _
    refine zbv (fun _=>1) 2 zpU ?_
    (repeat' (first|refine Va (fA4 @kz zky @exA.eq_1 @kA) ?_|(with_reducible first|refine SB.c ?_ ?_<;>intro _|exact zad|refine fun (_:List AVal)=>?_)|refine dC1 zaa cA ?_|refine dC1 zaa cB ?_|refine CK.dp [0] [] zlW c1 ?_|with_reducible refine zac ?_|omega))
    (refine zb5.mk [0] ?_<;>simp [kwt])
   |out=>rw [hr] at ho;cases ho
end Go.Proofs.YtfinhhblcdkpgaaGreatDoor
