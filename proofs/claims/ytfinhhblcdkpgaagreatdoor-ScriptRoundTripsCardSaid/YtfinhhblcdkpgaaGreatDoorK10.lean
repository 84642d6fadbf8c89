/- A part of the walk (Tryz_K10): its theorems have no condition beyond what they state. -/
import Derived.Test.YtfinhhblcdkpgaaGreatDoorK9
set_option maxRecDepth 100000
set_option maxHeartbeats 64000000
namespace Go.Proofs.YtfinhhblcdkpgaaGreatDoor
open Go Go.Abs
abbrev smV (s:Sm):AVal:=.agg [.pv (.int .i64 s.kind),.pv (.str s.name),.pv (.int .i64 s.slot),.pv (.int .i64 s.size),
  .pv (.int .i64 s.place.op),.pv (.int .i64 s.place.value),.pv (.str s.place.name),.pv (.int .i64 s.place.slot),.pv (.int .i64 s.place.size),.pv (.slice (s.place.args.map zbr)),
  .pv (.int .i64 s.value.op),.pv (.int .i64 s.value.value),.pv (.str s.value.name),.pv (.int .i64 s.value.slot),.pv (.int .i64 s.value.size),.pv (.slice (s.value.args.map zbr)),
  .pv (.slice (s.body.map zam)),.pv (.slice (s.els.map zam))]
theorem zvn (pl:List Pl) (n:Nat) (hn:n≤1000000000) (ihl:∀ (l:List Sm) (f:Fl),zbh l≤n→AC Tryz.prog gl 43 [.ref 0 0,.pv (.slice (l.map zam))] [ziS f,zjP pl] (.pv (.slice ((zbZ pl l f).1.map zam))) [ziS (zbZ pl l f).2,zjP pl])
  (s:Sm) (f:Fl) (hs:szS s≤n+1):AC Tryz.prog gl 67 [.ref 0 0,smV s] [ziS f,zjP pl] (smV (rsS pl s f).1) [ziS (rsS pl s f).2,zjP pl]:=by
 have hsz:=zf7 s
 have h1:=zb1 s.place
 have h2:=zb1 s.value
 rw [zBb]
 have hq2:s.kind=1→zeL pl s.name false f=rsQ pl s f:=fun h=>by simp [rsQ,zcB,h]
 have hq3:¬ s.kind=1→s.kind=2→zeL pl s.name true f=rsQ pl s f:=fun h h'=>by simp [rsQ,zcB,h,h']
 have hq0:¬ s.kind=1→¬ s.kind=2→rsQ pl s f=((s.slot,s.size),f):=fun h h'=>by simp [rsQ,zcB,h,h']
 have hP:rsP pl s f=rsE pl s.place (rsQ pl s f).2:=rfl
 have hV:rsV pl s f=rsE pl s.value (rsP pl s f).2:=rfl
 have hB:rsB pl s f=zbZ pl s.body (rsV pl s f).2:=rfl
 have hL:rsL pl s f=zbZ pl s.els (rsB pl s f).2:=rfl
 have cP:=zoV pl n s.place (rsQ pl s f).2 (by omega) hn
 have cV:=zoV pl n s.value (rsP pl s f).2 (by omega) hn
 have cB:=ihl s.body (rsV pl s f).2 (by omega)
 have cL:=ihl s.els (rsB pl s f).2 (by omega)
 rw [←hP] at cP
 rw [←hV] at cV
 rw [←hB] at cB
 rw [←hL] at cL
 clear hP hV hB hL ihl
 generalize rsQ pl s f=q at *
 generalize rsP pl s f=p' at *
 generalize rsV pl s f=v' at *
 generalize rsB pl s f=b' at *
 generalize rsL pl s f=l' at *
 simp only [exV,smV,Sm.kind_mk,Sm.name_mk,Sm.slot_mk,Sm.size_mk,Sm.place_mk,Sm.value_mk,Sm.body_mk,Sm.els_mk] at *
 rcases (show s.kind=1∨(¬ s.kind=1∧s.kind=2)∨(¬ s.kind=1∧¬ s.kind=2) by omega) with h2|⟨h2,h3⟩|⟨h2,h3⟩
 ·have hc1:=zk6 pl s.name false f
  rw [hq2 h2] at hc1
  have h2':(s.kind==1)=true:=by simp [h2]
  refine zax (fun d=>if d=3 then 2 else if d=4 then 3 else 9) 4 zD1 ?_
  (repeat' (first|refine V1 (And.intro zyY @h2') ?_|(with_reducible first|refine SB.c (fun _=>?_) fun _=>?_|exact zad)|refine CK.dx [0,1] [] zhn hc1 ?_|refine CK.dx [0,1] [] zc9 cP ?_|refine CK.dx [0,1] [] zc9 cV ?_|refine CK.dx [0,1] [] zbf cB ?_|refine CK.dx [0,1] [] zbf cL ?_|with_reducible refine zac ?_|omega))
  (refine zaH.mk [0,1,2,3] ?_ ?_<;>simp [kwr,zyY])
 ·have hc1:=zk6 pl s.name true f
  rw [hq3 h2 h3] at hc1
  have h2':(s.kind==1)=false:=by simpa using h2
  have h3':(s.kind==2)=true:=by simp [h3]
  refine zax (fun d=>if d=3 then 2 else if d=4 then 3 else 9) 4 zD1 ?_
  (repeat' (first|refine V1 (And.intro zyY <|And.intro @h2' @h3') ?_|(with_reducible first|refine SB.c (fun _=>?_) fun _=>?_|exact zad)|refine CK.dx [0,1] [] zhn hc1 ?_|refine CK.dx [0,1] [] zc9 cP ?_|refine CK.dx [0,1] [] zc9 cV ?_|refine CK.dx [0,1] [] zbf cB ?_|refine CK.dx [0,1] [] zbf cL ?_|with_reducible refine zac ?_|omega))
  (refine zaH.mk [0,1,2,3] ?_ ?_<;>simp [kwr,zyY])
 ·have h2':(s.kind==1)=false:=by simpa using h2
  have h3':(s.kind==2)=false:=by simpa using h3
  have hq:=hq0 h2 h3
  have hs1:s.slot=q.1.1:=by rw [hq]
  have hs2:s.size=q.1.2:=by rw [hq]
  have hs3:f.1=q.2.1:=by rw [hq]
  have hs4:f.2=q.2.2:=by rw [hq]
  simp only [ziS,hs1,hs2,hs3,hs4]
  refine zax (fun d=>if d=3 then 2 else if d=4 then 3 else 9) 4 zD1 ?_
  (repeat' (first|refine V1 (And.intro zyY <|And.intro @h2' @h3') ?_|(with_reducible first|refine SB.c (fun _=>?_) fun _=>?_|exact zad)|refine CK.dx [0,1] [] zc9 cP ?_|refine CK.dx [0,1] [] zc9 cV ?_|refine CK.dx [0,1] [] zbf cB ?_|refine CK.dx [0,1] [] zbf cL ?_|with_reducible refine zac ?_|omega))
  (refine zaH.mk [0,1,2,3] ?_ ?_<;>simp [kwr,zyY])
theorem zoW (pl:List Pl) (l:List Sm) (f:Fl) (hl:l.length≤1000000000) (ihs:∀ (s:Sm) (f:Fl),s ∈ l→AC Tryz.prog gl 67 [.ref 0 0,smV s] [ziS f,zjP pl] (smV (rsS pl s f).1) [ziS (rsS pl s f).2,zjP pl]) :
  AC Tryz.prog gl 43 [.ref 0 0,.pv (.slice (l.map zam))] [ziS f,zjP pl] (.pv (.slice ((zbZ pl l f).1.map zam))) [ziS (zbZ pl l f).2,zjP pl]:=by
 refine zgA (fun d=>if d=7 then 3 else if d=19 then 4 else 9) 5 zGM ?_
 (repeat' (first|refine V0 zCa ?_|(with_reducible first|refine SB.c (fun _=>?_) fun _=>?_|exact zad)|with_reducible refine zac ?_|omega))
 (refine LW.weak (zbT.nilRow 5 2 18 rfl rfl (by decide)) ?_;simp only [List.set_cons_zero,List.set_cons_succ])
 refine zbw (ι:={k:Nat // k≤l.length}) (fun i=>⟨(.ref 0 0::jl 3 (.snil::.row 2 i.1::.junk::.junk::.pv (.slice (l.map zam))::.pv (.int .i64 l.length)::.pv (.int .i64 i.1)::jl 11 [])),
    [ziS (zbZ pl (l.take i.1) f).2,zjP pl,some (.row 18 ((zbZ pl (l.take i.1) f).1.map zam)),none,none]⟩) (fun i=>l.length - i.1) ⟨0,by omega⟩ (WFe (by simp [kwf,zbZ]) (by simp [kwf,zbZ])) ?_
 rintro ⟨k,hk⟩
 by_cases hlt:k<l.length
 ·have hlt':(k:Int)<l.length:=by omega
  have hget:=zaV zam l k hlt
  have hmem:l[k] ∈ l:=List.getElem_mem hlt
  have hsn:=zr5 pl l f k hlt
  have hrl:(zbZ pl (l.take k) f).1.length=k:=by rw [zkK];simp;omega
  have hic:=ihs l[k] (zbZ pl (l.take k) f).2 hmem
  generalize hx:l[k]=x at *
  have hxe:=zar x
  generalize zbZ pl (l.take k) f=r at *
  have hye:=zar (rsS pl x r.2).1
  generalize rsS pl x r.2=y at *
  have hw:IntKind.i64.wrap ((k:Int)+1)=((k+1:Nat):Int):=by rw [zaB _ (by omega) (by omega)];rfl
  have hrm:=zfg (k+1) 232 (by omega)
  (repeat' (first|refine V1 (And.intro zCa <|And.intro @hlt' <|And.intro @hlt <|And.intro @hget <|And.intro @hxe <|And.intro @hrl <|And.intro @hrm @hw) ?_|(with_reducible first|refine SB.c (fun _=>?_) fun _=>?_|exact zad)|refine CK.dx [0,1] [] zuV hic ?_|with_reducible refine zac ?_|omega))
  exact ⟨⟨k+1,by omega⟩,(WTe [0,1,4,3,2] (by simp [kwt,hsn,hye]) (by simp [kwt,hsn,hye])),by simp;omega⟩
 ·have hlt':¬ (k:Int)<l.length:=by omega
  have hke:k=l.length:=by omega
  subst hke
  (repeat' (first|refine V0 (And.intro zCa <|And.intro @hlt' @List.take_length.{0}) ?_|(with_reducible first|refine SB.c (fun _=>?_) fun _=>?_|exact zad)|with_reducible refine zac ?_|omega))
  refine ⟨_,zbT.freeze 2 rfl,?_⟩
  simp only [St.frz,zgu,frz,zgv,List.map_cons,List.map_nil,List.set_cons_zero,List.set_cons_succ,List.length_map,List.take_length,zkK,if_true,if_false,↓reduceIte,Nat.reduceEqDiff,eq_self,reduceCtorEq,Nat.succ_ne_self]
  (refine zaH.mk [0,1,2,3,4] ?_ ?_<;>simp [kwr,zCa])
theorem zp7 (pl:List Pl) (n:Nat):n≤1000000000→∀ (l:List Sm) (f:Fl),zbh l≤n→AC Tryz.prog gl 43 [.ref 0 0,.pv (.slice (l.map zam))] [ziS f,zjP pl] (.pv (.slice ((zbZ pl l f).1.map zam))) [ziS (zbZ pl l f).2,zjP pl]:=by
 induction n with
 |zero=>intro hn l f hl;exact zoW pl l f (by have:=zcT l;omega) (fun s f hs=>by have:=zbJ l s hs;have:=zfB s;omega)
 |succ n ih=>
  intro hn l f hl
  exact zoW pl l f (by have:=zcT l;omega) (fun s f hs=>zvn pl n (by omega) (ih (by omega)) s f (by have:=zbJ l s hs;omega))
theorem zhw (pl:List Pl) (l:List Sm) (f:Fl) (hl:zbh l≤1000000000):AC Tryz.prog gl 43 [.ref 0 0,.pv (.slice (l.map zam))] [ziS f,zjP pl] (.pv (.slice ((zbZ pl l f).1.map zam))) [ziS (zbZ pl l f).2,zjP pl]:=zp7 pl _ (Nat.le_refl _) l f hl
end Go.Proofs.YtfinhhblcdkpgaaGreatDoor
