/- A part of the walk (Tryz_P2): its theorems have no condition beyond what they state. -/
import Derived.Test.YtfinhhblcdkpgaaGreatDoorP1
set_option maxRecDepth 100000
set_option maxHeartbeats 64000000
set_option linter.unusedSimpArgs false
set_option linter.unusedVariables false
set_option linter.defProp false
namespace Go.Proofs.YtfinhhblcdkpgaaGreatDoor
open Go Go.Abs Go.RowKit
theorem zBC (k:Nat) (h:k≤1000000):IntKind.i64.wrap (((k+1:Nat):Int) - 1)=(k:Int):=by rw [zaB _ (by omega) (by omega)];omega
theorem zgN (l:List TkD) (n k k':Nat) (nm:List UInt8) (h:zes l k=.ok nm k') (hl:l.length≤1000000):AC Tryz.prog gl 183 [.ref 0 0] (psO l n k) (.pv (.str nm)) (psO l n k'):=by
 unfold zes at h
 split at h
 ·rename_i hc
  obtain ⟨h1,h2,h3⟩:=hc
  cases h
  have cV:=zhs (l.getD k tk0).text
  rw [h3] at cV
  have hg:=zfn l k h1
  rw [h2] at hg
  generalize (l.getD k tk0).text=tx at *
  have hk':(k:Int)<l.length:=by omega
  have hne:((k:Int)==l.length)=false:=by simp;omega
  have hw:=zbu k (by omega)
  have hm:=zBC k (by omega)
  refine zax (fun _=>0) 1 zBe ?_
  (repeat' (first|refine Va (fA7 zrD h1 hk' hne hg hw hm) ?_|(with_reducible first|refine SB.c ?_ ?_<;>intro _|exact zad)|refine CK.d0 zf6 cV ?_|with_reducible refine zac ?_|omega))
  (refine zaI.mk [0] ?_ ?_<;>simp [kwr,zrD])
 ·cases h
theorem zht (l:List TkD) (n k k':Nat) (h:zes l k=.bad k') (hk:k≤l.length):AP Tryz.prog gl 183 [.ref 0 0] (psO l n k) (fv l n k') (psO l n k'):=by
 unfold zes at h
 split at h
 ·cases h
 ·rename_i hc
  cases h
  have cF:=zk2 l n k
  refine zbv (fun _=>0) 1 zBe ?_
  by_cases h1:k<l.length
  ·have hk':(k:Int)<l.length:=by omega
   have hne:((k:Int)==l.length)=false:=by simp;omega
   have hg:=zfn l k h1
   have cV:=zhs (l.getD k tk0).text
   by_cases h2:(l.getD k tk0).kind=1
   ·have h3:zbb (l.getD k tk0).text=false:=by
     cases hv:zbb (l.getD k tk0).text with
     |false=>rfl
     |true=>exact absurd ⟨h1,h2,hv⟩ hc
    rw [h3] at cV
    rw [h2] at hg
    generalize (l.getD k tk0).text=tx at *
    (repeat' (first|refine Va (fA6 @kz zrD h1 hk' hne hg) ?_|(with_reducible first|refine SB.c ?_ ?_<;>intro _|exact zad|refine fun (_:List AVal)=>?_)|refine CK.d0 zf6 cV ?_|refine CK.dp [0] [] zcX cF ?_|with_reducible refine zac ?_|omega))
    (refine zb5.mk [0] ?_<;>simp [kwt])
   ·have h2':((l.getD k tk0).kind != 1)=true:=by simpa using h2
    (repeat' (first|refine Va (fA7 @kz zrD h1 hk' hne hg h2') ?_|(with_reducible first|refine SB.c ?_ ?_<;>intro _|exact zad|refine fun (_:List AVal)=>?_)|refine CK.d0 zf6 cV ?_|refine CK.dp [0] [] zcX cF ?_|with_reducible refine zac ?_|omega))
    (refine zb5.mk [0] ?_<;>simp [kwt])
  ·have he:k=l.length:=by omega
   have hne:((k:Int)==l.length)=true:=by simp;omega
   (repeat' (first|refine Va (fA3 @kz zrD hne) ?_|(with_reducible first|refine SB.c ?_ ?_<;>intro _|exact zad|refine fun (_:List AVal)=>?_)|refine CK.dp [0] [] zcX cF ?_|with_reducible refine zac ?_|omega))
   (refine zb5.mk [0] ?_<;>simp [kwt])
theorem zgj (l:List TkD) (n k k':Nat) (z v:Int) (h:nmF l z k=.ok v k') (hl:l.length≤1000000):AC Tryz.prog gl 184 [.ref 0 0,.pv (.int .i64 z)] (psO l n k) (.pv (.int .i64 v)) (psO l n k'):=by
 unfold nmF at h
 split at h
 ·rename_i hc
  obtain ⟨h1,h2,h3⟩:=hc
  cases h
  have hg:=zfn l k h1
  rw [h2] at hg
  generalize (l.getD k tk0).value=tv at *
  have hlt:¬ tv<z:=by omega
  have hk':(k:Int)<l.length:=by omega
  have hne:((k:Int)==l.length)=false:=by simp;omega
  have hw:=zbu k (by omega)
  have hm:=zBC k (by omega)
  refine zax (fun _=>0) 1 zBf ?_
  (repeat' (first|refine Va (fA8 zrE h1 hk' hne hg hw hm hlt) ?_|(with_reducible first|refine SB.c ?_ ?_<;>intro _|exact zad)|with_reducible refine zac ?_|omega))
  (refine zaI.mk [0] ?_ ?_<;>simp [kwr,zrE])
 ·cases h
theorem zfd (l:List TkD) (n k k':Nat) (z:Int) (h:nmF l z k=.bad k') (hk:k≤l.length):AP Tryz.prog gl 184 [.ref 0 0,.pv (.int .i64 z)] (psO l n k) (fv l n k') (psO l n k'):=by
 unfold nmF at h
 split at h
 ·cases h
 ·rename_i hc
  cases h
  have cF:=zk2 l n k
  refine zbv (fun _=>0) 1 zBf ?_
  by_cases h1:k<l.length
  ·have hk':(k:Int)<l.length:=by omega
   have hne:((k:Int)==l.length)=false:=by simp;omega
   have hg:=zfn l k h1
   by_cases h2:(l.getD k tk0).kind=2
   ·have h3:(l.getD k tk0).value<z:=by
     rcases Int.lt_or_le (l.getD k tk0).value z with h|h
     ·exact h
     ·exact absurd ⟨h1,h2,h⟩ hc
    rw [h2] at hg
    (repeat' (first|refine Va (fA7 @kz zrE h1 hk' hne hg h3) ?_|(with_reducible first|refine SB.c ?_ ?_<;>intro _|exact zad|refine fun (_:List AVal)=>?_)|refine CK.dp [0] [] zcX cF ?_|with_reducible refine zac ?_|omega))
    (refine zb5.mk [0] ?_<;>simp [kwt])
   ·have h2':((l.getD k tk0).kind != 2)=true:=by simpa using h2
    (repeat' (first|refine Va (fA7 @kz zrE h1 hk' hne hg h2') ?_|(with_reducible first|refine SB.c ?_ ?_<;>intro _|exact zad|refine fun (_:List AVal)=>?_)|refine CK.dp [0] [] zcX cF ?_|with_reducible refine zac ?_|omega))
    (refine zb5.mk [0] ?_<;>simp [kwt])
  ·have he:k=l.length:=by omega
   have hne:((k:Int)==l.length)=true:=by simp;omega
   (repeat' (first|refine Va (fA3 @kz zrE hne) ?_|(with_reducible first|refine SB.c ?_ ?_<;>intro _|exact zad|refine fun (_:List AVal)=>?_)|refine CK.dp [0] [] zcX cF ?_|with_reducible refine zac ?_|omega))
   (refine zb5.mk [0] ?_<;>simp [kwt])
end Go.Proofs.YtfinhhblcdkpgaaGreatDoor
