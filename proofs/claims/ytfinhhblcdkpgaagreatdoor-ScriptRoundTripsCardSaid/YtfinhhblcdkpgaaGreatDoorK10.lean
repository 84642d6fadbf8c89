/- A part of the walk (Tryz_K10): its theorems have no condition beyond what they state. -/
import Derived.Test.YtfinhhblcdkpgaaGreatDoorK9
set_option maxRecDepth 100000
set_option maxHeartbeats 64000000
set_option linter.unusedSimpArgs false
set_option linter.unusedVariables false
set_option linter.defProp false
namespace Go.Proofs.YtfinhhblcdkpgaaGreatDoor
open Go Go.Abs
abbrev smV (s:Sm):AVal:=.agg [.pv (.int .i64 s.kind),.pv (.str s.name),.pv (.int .i64 s.slot),.pv (.int .i64 s.size),
  .pv (.int .i64 s.place.op),.pv (.int .i64 s.place.value),.pv (.str s.place.name),.pv (.int .i64 s.place.slot),.pv (.int .i64 s.place.size),.pv (.slice (s.place.args.map zbr)),
  .pv (.int .i64 s.value.op),.pv (.int .i64 s.value.value),.pv (.str s.value.name),.pv (.int .i64 s.value.slot),.pv (.int .i64 s.value.size),.pv (.slice (s.value.args.map zbr)),
  .pv (.slice (s.body.map zam)),.pv (.slice (s.els.map zam))]
theorem zvr (pl:List Pl) (n:Nat) (hn:n≤1000000000) (ihl:∀ (l:List Sm) (f:Fl),zbh l≤n→AC Tryz.prog gl 43 [.ref 0 0,.pv (.slice (l.map zam))] [ziS f,zjQ pl] (.pv (.slice ((zbZ pl l f).1.map zam))) [ziS (zbZ pl l f).2,zjQ pl])
  (s:Sm) (f:Fl) (hs:szS s≤n+1):AC Tryz.prog gl 67 [.ref 0 0,smV s] [ziS f,zjQ pl] (smV (rsS pl s f).1) [ziS (rsS pl s f).2,zjQ pl]:=by
 have hsz:=zgb s
 have h1:=zb1 s.place
 have h2:=zb1 s.value
 rw [zBn]
 have hq2:s.kind=1→zeQ pl s.name false f=rsQ pl s f:=fun h=>by simp [rsQ,zcC,h]
 have hq3:¬ s.kind=1→s.kind=2→zeQ pl s.name true f=rsQ pl s f:=fun h h'=>by simp [rsQ,zcC,h,h']
 have hq0:¬ s.kind=1→¬ s.kind=2→rsQ pl s f=((s.slot,s.size),f):=fun h h'=>by simp [rsQ,zcC,h,h']
 have hP:rsP pl s f=rsE pl s.place (rsQ pl s f).2:=rfl
 have hV:rsV pl s f=rsE pl s.value (rsP pl s f).2:=rfl
 have hB:rsB pl s f=zbZ pl s.body (rsV pl s f).2:=rfl
 have hL:rsL pl s f=zbZ pl s.els (rsB pl s f).2:=rfl
 have cP:=zo3 pl n s.place (rsQ pl s f).2 (by omega) hn
 have cV:=zo3 pl n s.value (rsP pl s f).2 (by omega) hn
 have cB:=ihl s.body (rsV pl s f).2 (by omega)
 have cL:=ihl s.els (rsB pl s f).2 (by omega)
 rw [←hP] at cP
 rw [←hV] at cV
 rw [←hB] at cB
 rw [←hL] at cL
 clear hP hV hB hL ihl
 generalize rsQ pl s f=q at *
 generalize rsP pl s f=p' at *
 generalize rsV pl s f=v' at *
 generalize rsB pl s f=b' at *
 generalize rsL pl s f=l' at *
 simp only [exV,smV,Sm.kind_mk,Sm.name_mk,Sm.slot_mk,Sm.size_mk,Sm.place_mk,Sm.value_mk,Sm.body_mk,Sm.els_mk] at *
 rcases (show s.kind=1∨(¬ s.kind=1∧s.kind=2)∨(¬ s.kind=1∧¬ s.kind=2) by omega) with h2|⟨h2,h3⟩|⟨h2,h3⟩
 ·have hc1:=zk9 pl s.name false f
  rw [hq2 h2] at hc1
  have h2':(s.kind==1)=true:=by simp [h2]
  refine zax (fun d=>if d=3 then 2 else if d=4 then 3 else 9) 4 zEf ?_
  (repeat' (first|refine Va (fA3 @kz zy2 h2') ?_|(with_reducible first|refine SB.c ?_ ?_<;>intro _|exact zad)|refine CK.dx [0,1] [] zhn hc1 ?_|refine CK.dx [0,1] [] zda cP ?_|refine CK.dx [0,1] [] zda cV ?_|refine CK.dx [0,1] [] zbf cB ?_|refine CK.dx [0,1] [] zbf cL ?_|with_reducible refine zac ?_|omega))
  (refine zaI.mk [0,1,2,3] ?_ ?_<;>simp [kwr,zy2])
 ·have hc1:=zk9 pl s.name true f
  rw [hq3 h2 h3] at hc1
  have h2':(s.kind==1)=false:=by simpa using h2
  have h3':(s.kind==2)=true:=by simp [h3]
  refine zax (fun d=>if d=3 then 2 else if d=4 then 3 else 9) 4 zEf ?_
  (repeat' (first|refine Va (fA4 @kz zy2 h2' h3') ?_|(with_reducible first|refine SB.c ?_ ?_<;>intro _|exact zad)|refine CK.dx [0,1] [] zhn hc1 ?_|refine CK.dx [0,1] [] zda cP ?_|refine CK.dx [0,1] [] zda cV ?_|refine CK.dx [0,1] [] zbf cB ?_|refine CK.dx [0,1] [] zbf cL ?_|with_reducible refine zac ?_|omega))
  (refine zaI.mk [0,1,2,3] ?_ ?_<;>simp [kwr,zy2])
 ·have h2':(s.kind==1)=false:=by simpa using h2
  have h3':(s.kind==2)=false:=by simpa using h3
  have hq:=hq0 h2 h3
  have hs1:s.slot=q.1.1:=by rw [hq]
  have hs2:s.size=q.1.2:=by rw [hq]
  have hs3:f.1=q.2.1:=by rw [hq]
  have hs4:f.2=q.2.2:=by rw [hq]
  simp only [ziS,hs1,hs2,hs3,hs4]
  refine zax (fun d=>if d=3 then 2 else if d=4 then 3 else 9) 4 zEf ?_
  (repeat' (first|refine Va (fA4 @kz zy2 h2' h3') ?_|(with_reducible first|refine SB.c ?_ ?_<;>intro _|exact zad)|refine CK.dx [0,1] [] zda cP ?_|refine CK.dx [0,1] [] zda cV ?_|refine CK.dx [0,1] [] zbf cB ?_|refine CK.dx [0,1] [] zbf cL ?_|with_reducible refine zac ?_|omega))
  (refine zaI.mk [0,1,2,3] ?_ ?_<;>simp [kwr,zy2])
theorem zo4 (pl:List Pl) (l:List Sm) (f:Fl) (hl:l.length≤1000000000) (ihs:∀ (s:Sm) (f:Fl),s ∈ l→AC Tryz.prog gl 67 [.ref 0 0,smV s] [ziS f,zjQ pl] (smV (rsS pl s f).1) [ziS (rsS pl s f).2,zjQ pl]) :
  AC Tryz.prog gl 43 [.ref 0 0,.pv (.slice (l.map zam))] [ziS f,zjQ pl] (.pv (.slice ((zbZ pl l f).1.map zam))) [ziS (zbZ pl l f).2,zjQ pl]:=by
 refine zgD (fun d=>if d=7 then 3 else if d=19 then 4 else 9) 5 zG0 ?_
 (repeat' (first|refine Va zCn ?_|(with_reducible first|refine SB.c ?_ ?_<;>intro _|exact zad)|with_reducible refine zac ?_|omega))
 (refine LW.weak (zbU.nilRow 5 2 18 rfl rfl (by decide)) ?_;simp only [List.set_cons_zero,List.set_cons_succ])
 refine zbx (ι:={k:Nat // k≤l.length}) (fun i=>⟨(.ref 0 0::jl 3 (.snil::.row 2 i.1::.junk::.junk::.pv (.slice (l.map zam))::.pv (.int .i64 l.length)::.pv (.int .i64 i.1)::jl 11 [])),
    [ziS (zbZ pl (l.take i.1) f).2,zjQ pl,some (.row 18 ((zbZ pl (l.take i.1) f).1.map zam)),none,none]⟩) (fun i=>l.length - i.1) ⟨0,by omega⟩ (WFe (by simp [kwf,zbZ]) (by simp [kwf,zbZ])) ?_
 rintro ⟨k,hk⟩
 by_cases hlt:k<l.length
 ·have hlt':(k:Int)<l.length:=by omega
  have hget:=zaV zam l k hlt
  have hmem:l[k] ∈ l:=List.getElem_mem hlt
  have hsn:=zr9 pl l f k hlt
  have hrl:(zbZ pl (l.take k) f).1.length=k:=by rw [zkN];simp;omega
  have hic:=ihs l[k] (zbZ pl (l.take k) f).2 hmem
  generalize hx:l[k]=x at *
  have hxe:=zar x
  generalize zbZ pl (l.take k) f=r at *
  have hye:=zar (rsS pl x r.2).1
  generalize rsS pl x r.2=y at *
  have hw:IntKind.i64.wrap ((k:Int)+1)=((k+1:Nat):Int):=by rw [zaB _ (by omega) (by omega)];rfl
  have hrm:=zfj (k+1) 232 (by omega)
  (repeat' (first|refine Va (fA9 @kz zCn hlt' hlt hget hxe hrl hrm hw) ?_|(with_reducible first|refine SB.c ?_ ?_<;>intro _|exact zad)|refine CK.dx [0,1] [] zuZ hic ?_|with_reducible refine zac ?_|omega))
  exact ⟨⟨k+1,by omega⟩,(WTe [0,1,4,3,2] (by simp [kwt,hsn,hye]) (by simp [kwt,hsn,hye])),by simp;omega⟩
 ·have hlt':¬ (k:Int)<l.length:=by omega
  have hke:k=l.length:=by omega
  subst hke
  (repeat' (first|refine Va (fA3 zCn hlt' @List.take_length.{0}) ?_|(with_reducible first|refine SB.c ?_ ?_<;>intro _|exact zad)|with_reducible refine zac ?_|omega))
  refine ⟨_,zbU.freeze 2 rfl,?_⟩
  simp only [St.frz,zgx,frz,zgy,List.map_cons,List.map_nil,List.set_cons_zero,List.set_cons_succ,List.length_map,List.take_length,zkN,if_true,if_false,↓reduceIte,Nat.reduceEqDiff,eq_self,reduceCtorEq,Nat.succ_ne_self]
  (refine zaI.mk [0,1,2,3,4] ?_ ?_<;>simp [kwr,zCn])
theorem zqd (pl:List Pl) (n:Nat):n≤1000000000→∀ (l:List Sm) (f:Fl),zbh l≤n→AC Tryz.prog gl 43 [.ref 0 0,.pv (.slice (l.map zam))] [ziS f,zjQ pl] (.pv (.slice ((zbZ pl l f).1.map zam))) [ziS (zbZ pl l f).2,zjQ pl]:=by
 induction n with
 |zero=>intro hn l f hl;exact zo4 pl l f (by have:=zcU l;omega) (fun s f hs=>by have:=zbK l s hs;have:=zfE s;omega)
 |succ n ih=>
  intro hn l f hl
  exact zo4 pl l f (by have:=zcU l;omega) (fun s f hs=>zvr pl n (by omega) (ih (by omega)) s f (by have:=zbK l s hs;omega))
theorem zhw (pl:List Pl) (l:List Sm) (f:Fl) (hl:zbh l≤1000000000):AC Tryz.prog gl 43 [.ref 0 0,.pv (.slice (l.map zam))] [ziS f,zjQ pl] (.pv (.slice ((zbZ pl l f).1.map zam))) [ziS (zbZ pl l f).2,zjQ pl]:=zqd pl _ (Nat.le_refl _) l f hl
end Go.Proofs.YtfinhhblcdkpgaaGreatDoor
