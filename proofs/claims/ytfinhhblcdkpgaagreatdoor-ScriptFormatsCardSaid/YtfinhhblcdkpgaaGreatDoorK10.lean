/- A part of the walk (Tryz_K10): its theorems have no condition beyond what they state. -/
import Derived.Test.YtfinhhblcdkpgaaGreatDoorK9
set_option maxRecDepth 100000
set_option maxHeartbeats 64000000
set_option linter.unusedSimpArgs false
set_option linter.unusedVariables false
set_option linter.defProp false
namespace Go.Proofs.YtfinhhblcdkpgaaGreatDoor
open Go Go.Abs
abbrev smV (s:Sm):AVal:=.agg [.pv (.int .i64 s.kind),.pv (.str s.name),.pv (.int .i64 s.slot),.pv (.int .i64 s.size),
  .pv (.int .i64 s.place.op),.pv (.int .i64 s.place.value),.pv (.str s.place.name),.pv (.int .i64 s.place.slot),.pv (.int .i64 s.place.size),.pv (.slice (s.place.args.map zbg)),
  .pv (.int .i64 s.value.op),.pv (.int .i64 s.value.value),.pv (.str s.value.name),.pv (.int .i64 s.value.slot),.pv (.int .i64 s.value.size),.pv (.slice (s.value.args.map zbg)),
  .pv (.slice (s.body.map zah)),.pv (.slice (s.els.map zah))]
theorem zul (pl:List Pl) (n:Nat) (hn:n≤1000000000) (ihl:∀ (l:List Sm) (f:Fl),zbx l≤n→AC Tryz.prog gl 43 [.ref 0 0,.pv (.slice (l.map zah))] [ziN f,zjE pl] (.pv (.slice ((zcZ pl l f).1.map zah))) [ziN (zcZ pl l f).2,zjE pl])
  (s:Sm) (f:Fl) (hs:szS s≤n+1):AC Tryz.prog gl 67 [.ref 0 0,smV s] [ziN f,zjE pl] (smV (rsS pl s f).1) [ziN (rsS pl s f).2,zjE pl]:=by
 have hsz:=zeA s
 have h1:=zbo s.place
 have h2:=zbo s.value
 rw [zzQ]
 have hq2:s.kind=1→zfx pl s.name false f=rsQ pl s f:=fun h=>by simp [rsQ,zdK,h]
 have hq3:¬ s.kind=1→s.kind=2→zfx pl s.name true f=rsQ pl s f:=fun h h'=>by simp [rsQ,zdK,h,h']
 have hq0:¬ s.kind=1→¬ s.kind=2→rsQ pl s f=((s.slot,s.size),f):=fun h h'=>by simp [rsQ,zdK,h,h']
 have hP:rsP pl s f=rsE pl s.place (rsQ pl s f).2:=rfl
 have hV:rsV pl s f=rsE pl s.value (rsP pl s f).2:=rfl
 have hB:rsB pl s f=zcZ pl s.body (rsV pl s f).2:=rfl
 have hL:rsL pl s f=zcZ pl s.els (rsB pl s f).2:=rfl
 have cP:=zoj pl n s.place (rsQ pl s f).2 (by omega) hn
 have cV:=zoj pl n s.value (rsP pl s f).2 (by omega) hn
 have cB:=ihl s.body (rsV pl s f).2 (by omega)
 have cL:=ihl s.els (rsB pl s f).2 (by omega)
 rw [←hP] at cP
 rw [←hV] at cV
 rw [←hB] at cB
 rw [←hL] at cL
 clear hP hV hB hL ihl
 generalize rsQ pl s f=q at *
 generalize rsP pl s f=p' at *
 generalize rsV pl s f=v' at *
 generalize rsB pl s f=b' at *
 generalize rsL pl s f=l' at *
 simp only [exV,smV,Sm.kind_mk,Sm.name_mk,Sm.slot_mk,Sm.size_mk,Sm.place_mk,Sm.value_mk,Sm.body_mk,Sm.els_mk] at *
 rcases (show s.kind=1∨(¬ s.kind=1∧s.kind=2)∨(¬ s.kind=1∧¬ s.kind=2) by omega) with h2|⟨h2,h3⟩|⟨h2,h3⟩
 ·have hc1:=zkJ pl s.name false f
  rw [hq2 h2] at hc1
  have h2':(s.kind==1)=true:=by simp [h2]
  refine zay (fun d=>if d=3 then 2 else if d=4 then 3 else 9) 4 zCz ?_
  (repeat' (first|refine Va (fA3 @kz zxv h2') ?_|(with_reducible first|refine SB.c ?_ ?_<;>intro _|exact zac)|refine CK.dx [0,1] [] zhd hc1 ?_|refine CK.dx [0,1] [] zc6 cP ?_|refine CK.dx [0,1] [] zc6 cV ?_|refine CK.dx [0,1] [] zbb cB ?_|refine CK.dx [0,1] [] zbb cL ?_|with_reducible refine zab ?_|omega))
  (refine zaJ.mk [0,1,2,3] ?_ ?_<;>simp [kwr,zxv])
 ·have hc1:=zkJ pl s.name true f
  rw [hq3 h2 h3] at hc1
  have h2':(s.kind==1)=false:=by simpa using h2
  have h3':(s.kind==2)=true:=by simp [h3]
  refine zay (fun d=>if d=3 then 2 else if d=4 then 3 else 9) 4 zCz ?_
  (repeat' (first|refine Va (fA4 @kz zxv h2' h3') ?_|(with_reducible first|refine SB.c ?_ ?_<;>intro _|exact zac)|refine CK.dx [0,1] [] zhd hc1 ?_|refine CK.dx [0,1] [] zc6 cP ?_|refine CK.dx [0,1] [] zc6 cV ?_|refine CK.dx [0,1] [] zbb cB ?_|refine CK.dx [0,1] [] zbb cL ?_|with_reducible refine zab ?_|omega))
  (refine zaJ.mk [0,1,2,3] ?_ ?_<;>simp [kwr,zxv])
 ·have h2':(s.kind==1)=false:=by simpa using h2
  have h3':(s.kind==2)=false:=by simpa using h3
  have hq:=hq0 h2 h3
  have hs1:s.slot=q.1.1:=by rw [hq]
  have hs2:s.size=q.1.2:=by rw [hq]
  have hs3:f.1=q.2.1:=by rw [hq]
  have hs4:f.2=q.2.2:=by rw [hq]
  simp only [ziN,hs1,hs2,hs3,hs4]
  refine zay (fun d=>if d=3 then 2 else if d=4 then 3 else 9) 4 zCz ?_
  (repeat' (first|refine Va (fA4 @kz zxv h2' h3') ?_|(with_reducible first|refine SB.c ?_ ?_<;>intro _|exact zac)|refine CK.dx [0,1] [] zc6 cP ?_|refine CK.dx [0,1] [] zc6 cV ?_|refine CK.dx [0,1] [] zbb cB ?_|refine CK.dx [0,1] [] zbb cL ?_|with_reducible refine zab ?_|omega))
  (refine zaJ.mk [0,1,2,3] ?_ ?_<;>simp [kwr,zxv])
theorem zok (pl:List Pl) (l:List Sm) (f:Fl) (hl:l.length≤1000000000) (ihs:∀ (s:Sm) (f:Fl),s ∈ l→AC Tryz.prog gl 67 [.ref 0 0,smV s] [ziN f,zjE pl] (smV (rsS pl s f).1) [ziN (rsS pl s f).2,zjE pl]) :
  AC Tryz.prog gl 43 [.ref 0 0,.pv (.slice (l.map zah))] [ziN f,zjE pl] (.pv (.slice ((zcZ pl l f).1.map zah))) [ziN (zcZ pl l f).2,zjE pl]:=by
 refine zg0 (fun d=>if d=7 then 3 else if d=19 then 4 else 9) 5 zFg ?_
 (repeat' (first|refine Va zAx ?_|(with_reducible first|refine SB.c ?_ ?_<;>intro _|exact zac)|with_reducible refine zab ?_|omega))
 (refine LW.weak (zbK.nilRow 5 2 18 rfl rfl (by decide)) ?_;simp only [List.set_cons_zero,List.set_cons_succ])
 refine za6 (ι:={k:Nat // k≤l.length}) (fun i=>⟨(.ref 0 0::jl 3 (.snil::.row 2 i.1::.junk::.junk::.pv (.slice (l.map zah))::.pv (.int .i64 l.length)::.pv (.int .i64 i.1)::jl 11 [])),
    [ziN (zcZ pl (l.take i.1) f).2,zjE pl,some (.row 18 ((zcZ pl (l.take i.1) f).1.map zah)),none,none]⟩) (fun i=>l.length - i.1) ⟨0,by omega⟩ (WFe (by simp [kwf,zcZ]) (by simp [kwf,zcZ])) ?_
 rintro ⟨k,hk⟩
 by_cases hlt:k<l.length
 ·have hlt':(k:Int)<l.length:=by omega
  have hget:=zaN zah l k hlt
  have hmem:l[k] ∈ l:=List.getElem_mem hlt
  have hsn:=zrf pl l f k hlt
  have hrl:(zcZ pl (l.take k) f).1.length=k:=by rw [zkp];simp;omega
  have hic:=ihs l[k] (zcZ pl (l.take k) f).2 hmem
  generalize hx:l[k]=x at *
  have hxe:=zar x
  generalize zcZ pl (l.take k) f=r at *
  have hye:=zar (rsS pl x r.2).1
  generalize rsS pl x r.2=y at *
  have hw:IntKind.i64.wrap ((k:Int)+1)=((k+1:Nat):Int):=by rw [zat _ (by omega) (by omega)];rfl
  have hrm:=zej (k+1) 232 (by omega)
  (repeat' (first|refine Va (fA9 @kz zAx hlt' hlt hget hxe hrl hrm hw) ?_|(with_reducible first|refine SB.c ?_ ?_<;>intro _|exact zac)|refine CK.dx [0,1] [] ztL hic ?_|with_reducible refine zab ?_|omega))
  exact ⟨⟨k+1,by omega⟩,(WTe [0,1,4,3,2] (by simp [kwt,hsn,hye]) (by simp [kwt,hsn,hye])),by simp;omega⟩
 ·have hlt':¬ (k:Int)<l.length:=by omega
  have hke:k=l.length:=by omega
  subst hke
  (repeat' (first|refine Va (fA3 zAx hlt' @List.take_length.{0}) ?_|(with_reducible first|refine SB.c ?_ ?_<;>intro _|exact zac)|with_reducible refine zab ?_|omega))
  refine ⟨_,zbK.freeze 2 rfl,?_⟩
  simp only [St.frz,zgI,frz,zgJ,List.map_cons,List.map_nil,List.set_cons_zero,List.set_cons_succ,List.length_map,List.take_length,zkp,if_true,if_false,↓reduceIte,Nat.reduceEqDiff,eq_self,reduceCtorEq,Nat.succ_ne_self]
  (refine zaJ.mk [0,1,2,3,4] ?_ ?_<;>simp [kwr,zAx])
theorem zpk (pl:List Pl) (n:Nat):n≤1000000000→∀ (l:List Sm) (f:Fl),zbx l≤n→AC Tryz.prog gl 43 [.ref 0 0,.pv (.slice (l.map zah))] [ziN f,zjE pl] (.pv (.slice ((zcZ pl l f).1.map zah))) [ziN (zcZ pl l f).2,zjE pl]:=by
 induction n with
 |zero=>intro hn l f hl;exact zok pl l f (by have:=zbW l;omega) (fun s f hs=>by have:=za1 l s hs;have:=zcW s;omega)
 |succ n ih=>
  intro hn l f hl
  exact zok pl l f (by have:=zbW l;omega) (fun s f hs=>zul pl n (by omega) (ih (by omega)) s f (by have:=za1 l s hs;omega))
theorem zhq (pl:List Pl) (l:List Sm) (f:Fl) (hl:zbx l≤1000000000):AC Tryz.prog gl 43 [.ref 0 0,.pv (.slice (l.map zah))] [ziN f,zjE pl] (.pv (.slice ((zcZ pl l f).1.map zah))) [ziN (zcZ pl l f).2,zjE pl]:=zpk pl _ (Nat.le_refl _) l f hl
end Go.Proofs.YtfinhhblcdkpgaaGreatDoor
