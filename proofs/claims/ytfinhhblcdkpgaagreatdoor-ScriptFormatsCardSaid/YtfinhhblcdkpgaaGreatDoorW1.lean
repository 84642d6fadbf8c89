/- A part of the walk (Tryz_W1): its theorems have no condition beyond what they state. -/
import Derived.Test.YtfinhhblcdkpgaaGreatDoorP3
import Derived.Test.YtfinhhblcdkpgaaGreatDoorN12
import Derived.Test.YtfinhhblcdkpgaaGreatDoorLib3
set_option maxRecDepth 100000
set_option maxHeartbeats 64000000
set_option linter.unusedSimpArgs false
set_option linter.unusedVariables false
set_option linter.defProp false
namespace Go.Proofs.YtfinhhblcdkpgaaGreatDoor
open Go Go.Abs Go.RowKit
abbrev wrO (t:List UInt8):List (Option AObj):=[some (.cells [.row 1 t.length]),some (.row 1 (t.map zl2))]
abbrev wrQ (t:List UInt8):List (Option AObj):=[some (.cells [.row 2 t.length]),some .dead,some (.row 1 (t.map zl2))]
theorem zoe (ps:List (List UInt8)) (t:List UInt8) (hb:(t++ps.flatten).length≤140000000000000) (hn:ps.length≤1000):AC Tryz.prog gl 83 [.ref 0 0,.pv (.slice (ps.map fun s=>[.str s]))] (wrO t) (.tup []) (wrQ (t++ps.flatten)):=by
 refine zay (fun _=>3) 4 zFr ?_
 (repeat' (first|refine Va zAB ?_|(with_reducible first|refine SB.c ?_ ?_<;>intro _|exact zac)|with_reducible refine zab ?_|omega))
 refine za6 (ι:={k:Nat // k≤ps.length}) (fun i=>⟨(.ref 0 0::jl 5 (.pv (.slice (ps.map fun s=>[.str s]))::.pv (.int .i64 ps.length)::.pv (.int .i64 i.1)::jl 13 [])),[some (.cells [.row 2 (t++(ps.take i.1).flatten).length]),some .dead,some (.row 1 ((t++(ps.take i.1).flatten).map zl2)),none]⟩) (fun i=>ps.length - i.1) ⟨0,by omega⟩ (WMe [0,1,1,3] (by simp [kwt]) (by simp [kwt])) ?_
 rintro ⟨k,hk⟩
 by_cases hlt:k<ps.length
 ·have hlt':(k:Int)<ps.length:=by omega
  have hget:=zti (fun s=>[PVal.str s]) ps k [] hlt
  have hs:ps.getD k []=ps[k]:=by simp [List.getD,hlt]
  rw [hs] at hget
  have hst:ps.take (k+1)=ps.take k++[ps[k]]:=List.take_succ_eq_append_getElem hlt
  have hle:(ps.take (k+1)).flatten.length≤ps.flatten.length:=by
   have e:=congrArg (fun l=>l.flatten.length) (List.take_append_drop (k+1) ps)
   simp only [List.flatten_append,List.length_append] at e
   omega
  rw [hst] at hle
  simp only [List.flatten_append,List.flatten_cons,List.flatten_nil,List.append_nil,List.length_append] at hle hb
  have hw:=zbc k (by omega)
  generalize ps[k]=s at *
  have hu:t++(ps.take (k+1)).flatten=(t++(ps.take k).flatten)++s:=by rw [hst];simp
  have hlu:(t++(ps.take k).flatten).length=t.length+(ps.take k).flatten.length:=by simp
  generalize t++(ps.take k).flatten=u at *
  have hrm:=zej (u.length+s.length) 1 (by omega)
  (repeat' (first|refine Va (fA6 zAB hlt' hlt hget hw hrm) ?_|(with_reducible first|refine SB.c ?_ ?_<;>intro _|exact zac)|with_reducible refine zab ?_|omega))
  exact ⟨⟨k+1,by omega⟩,(WTe [0,1,3,2] (by simp [kwt,hu]) (by simp [kwt,hu])),by show ps.length - (k+1)<ps.length - k;omega⟩
 ·have hlt':¬ (k:Int)<ps.length:=by omega
  have hke:k=ps.length:=by omega
  subst hke
  (repeat' (first|refine Va (fA2 zAB hlt') ?_|(with_reducible first|refine SB.c ?_ ?_<;>intro _|exact zac)|with_reducible refine zab ?_|omega))
  (refine zaJ.mk [0,1,2] ?_ ?_<;>simp [kwr,zAB,List.take_length])
theorem zfF (a t:List UInt8) (hb:(t++a).length≤140000000000000):AC Tryz.prog gl 83 [.ref 0 0,.pv (.slice [[.str a]])] (wrO t) (.tup []) (wrQ (t++a)):=by
 have h:=zoe [a] t (by simpa using hb) (by simp)
 rw [show [a].flatten=a by simp] at h
 exact h
theorem zDj (a b t:List UInt8) (hb:(t++(a++b)).length≤140000000000000):AC Tryz.prog gl 83 [.ref 0 0,.pv (.slice [[.str a],[.str b]])] (wrO t) (.tup []) (wrQ (t++(a++b))):=by
 have h:=zoe [a,b] t (by simpa using hb) (by simp)
 rw [show [a,b].flatten=a++b by simp] at h
 exact h
theorem zDk (a b c t:List UInt8) (hb:(t++(a++(b++c))).length≤140000000000000):AC Tryz.prog gl 83 [.ref 0 0,.pv (.slice [[.str a],[.str b],[.str c]])] (wrO t) (.tup []) (wrQ (t++(a++(b++c)))):=by
 have h:=zoe [a,b,c] t (by simpa using hb) (by simp)
 rw [show [a,b,c].flatten=a++(b++c) by simp] at h
 exact h
theorem zDS (a b c d e t:List UInt8) (hb:(t++(a++(b++(c++(d++e))))).length≤140000000000000):AC Tryz.prog gl 83 [.ref 0 0,.pv (.slice [[.str a],[.str b],[.str c],[.str d],[.str e]])] (wrO t) (.tup []) (wrQ (t++(a++(b++(c++(d++e)))))):=by
 have h:=zoe [a,b,c,d,e] t (by simpa using hb) (by simp)
 rw [show [a,b,c,d,e].flatten=a++(b++(c++(d++e))) by simp] at h
 exact h
theorem zfB (e:Ex) (t:List UInt8) (hb:t.length+(zgA (decide (e.op≥8),fmE e)).length≤140000000000000) (hE:∀ t,t.length+(fmE e).length≤140000000000000→AC Tryz.prog gl 171 [.ref 0 0,.pv (.ptr (zbg e))] (wrO t) (.tup []) (wrQ (t++fmE e))) :
  AC Tryz.prog gl 191 [.ref 0 0,.pv (.ptr (zbg e))] (wrO t) (.tup []) (wrQ (t++zgA (decide (e.op≥8),fmE e))):=by
 unfold zgA at hb ⊢
 by_cases h:e.op<8
 ·have hd:decide (e.op≥8)=false:=by simp;omega
  rw [hd] at hb ⊢
  simp only [Bool.false_eq_true,if_false] at hb ⊢
  have c:=hE t (by omega)
  rw [zaq] at c ⊢
  refine zay (fun _=>2) 3 zzJ ?_
  (repeat' (first|refine Va (fA3 @kz ztE h) ?_|(with_reducible first|refine SB.c ?_ ?_<;>intro _|exact zac)|refine CK.dx [0,1] [2] zbH c ?_|with_reducible refine zab ?_|omega))
  (refine zaJ.mk [0,1,2] ?_ ?_<;>simp [kwr,ztE])
 ·have hd:decide (e.op≥8)=true:=by simp;omega
  rw [hd] at hb ⊢
  simp only [if_true,List.length_cons,List.length_append,List.length_nil] at hb ⊢
  have c1:=zfF [40] t (by simp;omega)
  have c2:=hE (t++[40]) (by simp;omega)
  have c3:=zfF [41] (t++[40]++fmE e) (by simp;omega)
  rw [zaq] at c2 ⊢
  have e1:t++[40]++fmE e++[41]=t++40::(fmE e++[41]):=by simp
  rw [e1] at c3
  refine zay (fun _=>2) 5 zzJ ?_
  (repeat' (first|refine Va (fA3 @kz ztE h) ?_|(with_reducible first|refine SB.c ?_ ?_<;>intro _|exact zac)|refine CK.dx [0,1] [2] zav c1 ?_|refine CK.dx [0,2] [3] zbH c2 ?_|refine CK.dx [0,3] [4] zav c3 ?_|with_reducible refine zab ?_|omega))
  (refine zaJ.mk [0,1,4] ?_ ?_<;>simp [kwr,ztE])
end Go.Proofs.YtfinhhblcdkpgaaGreatDoor
