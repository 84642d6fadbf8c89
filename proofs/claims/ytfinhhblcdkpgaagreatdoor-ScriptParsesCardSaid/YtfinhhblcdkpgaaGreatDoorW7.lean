/- A part of the walk (Tryz_W7): its theorems have no condition beyond what they state. -/
import Derived.Test.YtfinhhblcdkpgaaGreatDoorLib2
import Derived.Test.YtfinhhblcdkpgaaGreatDoorW6
import Derived.Test.YtfinhhblcdkpgaaGreatDoorLib3
set_option maxRecDepth 100000
set_option maxHeartbeats 64000000
set_option linter.unusedSimpArgs false
set_option linter.unusedVariables false
namespace Go.Proofs.YtfinhhblcdkpgaaGreatDoor
open Go Go.Abs Go.RowKit
theorem zn5 (n:Nat) (l:List Sm) (hl:l.length≤1000000) (hg:zaA l=true) (hb:(lsT n l).length≤100000000000000)
  (cV:∀ s ∈ l,AC Tryz.prog gl 102 [exP s.value] [] (.pv (.str (fmE s.value))) [])
  (cP:∀ s ∈ l,(s.kind=2∨s.kind=5)→AC Tryz.prog gl 102 [exP s.place] [] (.pv (.str (fmE s.place))) [])
  (cB:∀ s ∈ l,(lsT (n+1) s.body).length≤100000000000000→AC Tryz.prog gl 73 [.pv (.slice (s.body.map zah)),.pv (.str (zez (n+1)))] [] (.pv (.str (lsT (n+1) s.body))) [])
  (cN:∀ s ∈ l,(lsT (n+1) s.els).length≤100000000000000→AC Tryz.prog gl 73 [.pv (.slice (s.els.map zah)),.pv (.str (zez (n+1)))] [] (.pv (.str (lsT (n+1) s.els))) []) :
  AC Tryz.prog gl 73 [.pv (.slice (l.map zah)),.pv (.str (zez n))] [] (.pv (.str (lsT n l))) []:=by
 have hi:zez (n+1)=zez n++[32,32]:=by
  unfold zez
  rw [show 2 * (n+1)=2 * n+2 by omega,←List.replicate_append_replicate]
  rfl
 refine zas (fun _=>0) 1 zJX ?_
 refine Wk1 zwJ ?_
 refine zaK (ι:={q:Nat × List UInt8 // q.1≤l.length∧q.2++lsT n (l.drop q.1)=lsT n l}) (fun i=>⟨(.pv (.slice (l.map zah))::.pv (.str (zez n))::jl 3 (.pv (.str i.1.2)::.pv (.int .i64 i.1.1)::jl 120 [])),[none]⟩) (fun i=>l.length - i.1.1) ⟨(0,[]),by simp⟩ WFn ?_
 rintro ⟨⟨k,u⟩,hk,hu⟩
 replace hk:k≤l.length:=hk
 replace hu:u++lsT n (l.drop k)=lsT n l:=hu
 by_cases hlt:k<l.length
 ·have hlt':(k:Int)<l.length:=by omega
  have hget:=zaE zah l k hlt
  have hmem:l[k] ∈ l:=List.getElem_mem hlt
  have hgx:=zgO hg hmem
  replace cV:=cV _ hmem
  replace cP:=cP _ hmem
  replace cB:=cB _ hmem
  replace cN:=cN _ hmem
  rw [List.drop_eq_getElem_cons hlt,lsT] at hu
  have hlen:=congrArg List.length hu
  rw [←hu] at hb
  simp only [List.length_append] at hlen hb
  generalize l[k]=x at *
  have hxe:=zag x
  obtain ⟨g1,g2,g3,g4,g5,g6⟩:=zqU hgx
  have hw:=zaP k (by omega)
  have hsx:=zDR n x
  have fin:∀ t:List UInt8,u++zez n++stT n x=t→k+1≤l.length∧t++lsT n (l.drop (k+1))=lsT n l:=fun t ht=>⟨by omega,by rw [←ht,←hu];simp only [List.append_assoc]⟩
  have hK:x.kind=1∨x.kind=2∨x.kind=3∨x.kind=4∨x.kind=5∨x.kind=6:=by omega
  rcases hK with h1|h1|h1|h1|h1|h1
  ·have ev:u++zez n++stT n x=u++zez n++(x.name++[32,61,32]++fmE x.value++[59,10]):=by
    rw [hsx,h1]
    simp only [fmS,List.append_assoc,List.nil_append,if_true,if_false,Bool.false_eq_true,eq_self,Int.reduceEq,↓reduceIte,Nat.reduceEqDiff,reduceCtorEq]
   have evl:=congrArg List.length ev
   simp only [List.length_append,List.length_cons,List.length_nil] at evl
   have fi:=fin _ ev
   clear fin ev hsx hu hgx hg g2 g3 g4 g5 g6
   repeat' first|refine Va (zgj zwJ hlt' hlt hget hxe hw h1 @List.length_append.{0} @List.length_cons.{0} @List.length_nil.{0}) ?_|(with_reducible first|refine SB.c ?_ ?_<;>intro _|exact zak)|refine CK.d0 zca cV ?_|with_reducible refine zaj ?_|omega
   exact ⟨⟨(k+1,u++zez n++(x.name++[32,61,32]++fmE x.value++[59,10])),fi⟩,WFn,by show l.length - (k+1)<l.length - k;omega⟩
  ·have ev:u++zez n++stT n x=u++zez n++(x.name++[91]++fmE x.place++[93,32,61,32]++fmE x.value++[59,10]):=by
    rw [hsx,h1]
    simp only [fmS,List.append_assoc,List.nil_append,if_true,if_false,Bool.false_eq_true,eq_self,Int.reduceEq,↓reduceIte,Nat.reduceEqDiff,reduceCtorEq]
   have evl:=congrArg List.length ev
   simp only [List.length_append,List.length_cons,List.length_nil] at evl
   have cP:=cP (by omega)
   have fi:=fin _ ev
   clear fin ev hsx hu hgx hg g2 g3 g4 g5 g6
   repeat' first|refine Va (zgj zwJ hlt' hlt hget hxe hw h1 @List.length_append.{0} @List.length_cons.{0} @List.length_nil.{0}) ?_|(with_reducible first|refine SB.c ?_ ?_<;>intro _|exact zak)|refine CK.d0 zca cP ?_|refine CK.d0 zca cV ?_|with_reducible refine zaj ?_|omega
   exact ⟨⟨(k+1,u++zez n++(x.name++[91]++fmE x.place++[93,32,61,32]++fmE x.value++[59,10])),fi⟩,WFn,by show l.length - (k+1)<l.length - k;omega⟩
  ·by_cases hels:((x.els.length:Nat):Int) > 0
   ·have ev:u++zez n++stT n x=u++zez n++([105,102,32]++fmE x.value++[32,123,10]++lsT (n+1) x.body)++(zez n++[125,32,101,108,115,101,32,123,10]++lsT (n+1) x.els)++(zez n++[125,10]):=by
     rw [hsx,h1,decide_eq_true (show x.els.length > 0 by omega)]
     simp only [fmS,List.append_assoc,List.nil_append,if_true,if_false,Bool.false_eq_true,eq_self,Int.reduceEq,↓reduceIte,Nat.reduceEqDiff,reduceCtorEq]
    have evl:=congrArg List.length ev
    simp only [List.length_append,List.length_cons,List.length_nil] at evl
    have cB:=cB (by omega)
    rw [hi] at cB
    have cN:=cN (by omega)
    rw [hi] at cN
    have fi:=fin _ ev
    clear fin ev hsx hu hgx hg g2 g3 g4 g5 g6
    repeat' first|refine Va (zg7 zwJ hlt' hlt hget hxe hw h1 hels @List.length_append.{0} @List.length_cons.{0} @List.length_nil.{0}) ?_|(with_reducible first|refine SB.c ?_ ?_<;>intro _|exact zak)|refine CK.d0 zca cV ?_|refine CK.d0 zhh cB ?_|refine CK.d0 zhh cN ?_|with_reducible refine zaj ?_|omega
    exact ⟨⟨(k+1,u++zez n++([105,102,32]++fmE x.value++[32,123,10]++lsT (n+1) x.body)++(zez n++[125,32,101,108,115,101,32,123,10]++lsT (n+1) x.els)++(zez n++[125,10])),fi⟩,WFn,by show l.length - (k+1)<l.length - k;omega⟩
   ·have ev:u++zez n++stT n x=u++zez n++([105,102,32]++fmE x.value++[32,123,10]++lsT (n+1) x.body)++(zez n++[125,10]):=by
     rw [hsx,h1,decide_eq_false (show ¬ x.els.length > 0 by omega)]
     simp only [fmS,List.append_assoc,List.nil_append,if_true,if_false,Bool.false_eq_true,eq_self,Int.reduceEq,↓reduceIte,Nat.reduceEqDiff,reduceCtorEq]
    have evl:=congrArg List.length ev
    simp only [List.length_append,List.length_cons,List.length_nil] at evl
    have cB:=cB (by omega)
    rw [hi] at cB
    have fi:=fin _ ev
    clear fin ev hsx hu hgx hg g2 g3 g4 g5 g6
    repeat' first|refine Va (zg7 zwJ hlt' hlt hget hxe hw h1 hels @List.length_append.{0} @List.length_cons.{0} @List.length_nil.{0}) ?_|(with_reducible first|refine SB.c ?_ ?_<;>intro _|exact zak)|refine CK.d0 zca cV ?_|refine CK.d0 zhh cB ?_|with_reducible refine zaj ?_|omega
    exact ⟨⟨(k+1,u++zez n++([105,102,32]++fmE x.value++[32,123,10]++lsT (n+1) x.body)++(zez n++[125,10])),fi⟩,WFn,by show l.length - (k+1)<l.length - k;omega⟩
  ·have ev:u++zez n++stT n x=u++zez n++([119,104,105,108,101,32]++fmE x.value++[32,123,10]++lsT (n+1) x.body++zez n++[125,10]):=by
    rw [hsx,h1,show x.els=[] from g6 (by omega),show decide (([]:List Sm).length > 0)=false from rfl]
    simp only [fmS,List.append_assoc,List.nil_append,if_true,if_false,Bool.false_eq_true,eq_self,Int.reduceEq,↓reduceIte,Nat.reduceEqDiff,reduceCtorEq]
   have evl:=congrArg List.length ev
   simp only [List.length_append,List.length_cons,List.length_nil] at evl
   have cB:=cB (by omega)
   rw [hi] at cB
   have fi:=fin _ ev
   clear fin ev hsx hu hgx hg g2 g3 g4 g5 g6
   repeat' first|refine Va (zgj zwJ hlt' hlt hget hxe hw h1 @List.length_append.{0} @List.length_cons.{0} @List.length_nil.{0}) ?_|(with_reducible first|refine SB.c ?_ ?_<;>intro _|exact zak)|refine CK.d0 zca cV ?_|refine CK.d0 zhh cB ?_|with_reducible refine zaj ?_|omega
   exact ⟨⟨(k+1,u++zez n++([119,104,105,108,101,32]++fmE x.value++[32,123,10]++lsT (n+1) x.body++zez n++[125,10])),fi⟩,WFn,by show l.length - (k+1)<l.length - k;omega⟩
  ·have ev:u++zez n++stT n x=u++zez n++([115,101,110,100,32]++fmE x.place++[44,32]++fmE x.value++[59,10]):=by
    rw [hsx,h1]
    simp only [fmS,List.append_assoc,List.nil_append,if_true,if_false,Bool.false_eq_true,eq_self,Int.reduceEq,↓reduceIte,Nat.reduceEqDiff,reduceCtorEq]
   have evl:=congrArg List.length ev
   simp only [List.length_append,List.length_cons,List.length_nil] at evl
   have cP:=cP (by omega)
   have fi:=fin _ ev
   clear fin ev hsx hu hgx hg g2 g3 g4 g5 g6
   repeat' first|refine Va (zgj zwJ hlt' hlt hget hxe hw h1 @List.length_append.{0} @List.length_cons.{0} @List.length_nil.{0}) ?_|(with_reducible first|refine SB.c ?_ ?_<;>intro _|exact zak)|refine CK.d0 zca cP ?_|refine CK.d0 zca cV ?_|with_reducible refine zaj ?_|omega
   exact ⟨⟨(k+1,u++zez n++([115,101,110,100,32]++fmE x.place++[44,32]++fmE x.value++[59,10])),fi⟩,WFn,by show l.length - (k+1)<l.length - k;omega⟩
  ·have ev:u++zez n++stT n x=u++zez n++([111,117,116,112,117,116,32]++fmE x.value++[59,10]):=by
    rw [hsx,h1]
    simp only [fmS,List.append_assoc,List.nil_append,if_true,if_false,Bool.false_eq_true,eq_self,Int.reduceEq,↓reduceIte,Nat.reduceEqDiff,reduceCtorEq]
   have evl:=congrArg List.length ev
   simp only [List.length_append,List.length_cons,List.length_nil] at evl
   have fi:=fin _ ev
   clear fin ev hsx hu hgx hg g2 g3 g4 g5 g6
   repeat' first|refine Va (zgj zwJ hlt' hlt hget hxe hw h1 @List.length_append.{0} @List.length_cons.{0} @List.length_nil.{0}) ?_|(with_reducible first|refine SB.c ?_ ?_<;>intro _|exact zak)|refine CK.d0 zca cV ?_|with_reducible refine zaj ?_|omega
   exact ⟨⟨(k+1,u++zez n++([111,117,116,112,117,116,32]++fmE x.value++[59,10])),fi⟩,WFn,by show l.length - (k+1)<l.length - k;omega⟩
 ·have hlt':¬ (k:Int)<l.length:=by omega
  rw [List.drop_eq_nil_of_le (by omega),lsT,List.append_nil] at hu
  subst hu
  refine Wk0 (fA2 zwJ hlt')
theorem zpn (m:Nat):m≤1000000→∀ (n:Nat) (l:List Sm),zbz l≤m→n+m≤2000000→zaA l=true→zkC l=true→(lsT n l).length≤100000000000000→AC Tryz.prog gl 73 [.pv (.slice (l.map zah)),.pv (.str (zez n))] [] (.pv (.str (lsT n l))) []:=by
 induction m with
 |zero=>
  intro hm n l hl hn hg hr hb
  exact zn5 n l (by have:=zbO l;omega) hg hb (fun s hs=>by have:=zaV l s hs;have:=zcm s;omega) (fun s hs=>by have:=zaV l s hs;have:=zcm s;omega) (fun s hs=>by have:=zaV l s hs;have:=zcm s;omega) (fun s hs=>by have:=zaV l s hs;have:=zcm s;omega)
 |succ m ih=>
  intro hm n l hl hn hg hr hb
  refine zn5 n l (by have:=zbO l;omega) hg hb (fun s hs=>?_) (fun s hs hk=>?_) (fun s hs hb'=>?_) (fun s hs hb'=>?_)
  all_goals
   have h0:=zaV l s hs
   have h1:=zea s
   have h2:=zbw s.place
   have h3:=zqU (zgO hg hs)
   have h4:=zqt hr hs
   rw [zDT] at h4
   simp only [Bool.and_eq_true] at h4
  ·exact zqW _ s.value (Nat.le_refl _) (by omega) h3.2.2.1 h4.1.1.2
  ·exact zqW _ s.place (Nat.le_refl _) (by omega) (h3.2.1 hk) h4.1.1.1
  ·exact ih (by omega) (n+1) s.body (by omega) (by omega) h3.2.2.2.1 h4.1.2 hb'
  ·exact ih (by omega) (n+1) s.els (by omega) (by omega) h3.2.2.2.2.1 h4.2 hb'
theorem zu3 (l:List Sm) (hl:zbz l≤1000000) (hg:zaA l=true) (hr:zkC l=true):AC Tryz.prog gl 73 [.pv (.slice (l.map zah)),.pv (.str [32,32])] [] (.pv (.str (lsT 1 l))) []:=
 zpn _ (Nat.le_refl _) 1 l hl (by omega) hg hr (by have:=zid 1 l hg (by omega);omega)
theorem zjb (nm:List UInt8) (hnm:nm.length≤10) (l:List Sm) (hl:zbz l≤1000000) (hg:zaA l=true) (hr:zkC l=true) :
  AC Tryz.prog gl 49 [.pv (.str nm),.pv (.slice (l.map zah))] [] (.pv (.str (hdT nm l))) []:=by
 have c:=zu3 l hl hg hr
 have hb:=zid 1 l hg (by omega)
 unfold hdT
 by_cases h0:l.length=0
 ·have h0':((l.length:Nat):Int)=0:=by omega
  rw [if_pos h0]
  refine zas (fun _=>0) 1 zH8 ?_
  refine Wk0 (fA2 zHZ h0')
 ·have h0':¬ ((l.length:Nat):Int)=0:=by omega
  rw [if_neg h0]
  refine zas (fun _=>0) 1 zH8 ?_
  repeat' first|refine Va (fA5 zHZ h0' @List.length_append.{0} @List.length_cons.{0} @List.length_nil.{0}) ?_|(with_reducible first|refine SB.c ?_ ?_<;>intro _|exact zak)|refine CK.d0 zhh c ?_|with_reducible refine zaj ?_|omega
theorem zsn (p:PgD) (hp:szP p≤1000000) (hr:rgP p=true) :
  AC Tryz.prog gl 28 [pgA p] [] (.tup [.pv (.str (zqp p).1),.pv (.int .i64 (zqp p).2)]) []:=by
 have ck:=znU p (by omega)
 unfold zqp
 by_cases h0:zcn zaA p=0
 ·rw [h0] at ck
  rw [if_neg (by simpa using h0)]
  have hbt:=zAt p h0 hp
  obtain ⟨g0,g1,g2,g3,g4,_⟩:=zqs h0
  unfold rgP at hr
  simp only [Bool.and_eq_true] at hr
  obtain ⟨⟨⟨⟨hrv,r1⟩,r2⟩,r3⟩,r4⟩:=hr
  unfold szP at hp
  have hal:p.vars.length≤1000000:=by omega
  have ea:pgT p=vsT p.vars++(hdT [115,116,97,114,116] p.start++hdT [109,101,115,115,97,103,101] p.message++hdT [116,105,99,107] p.tick++hdT [105,110,112,117,116] p.input):=by
   unfold pgT;simp only [List.append_assoc]
  rw [ea] at hbt ⊢
  have c1:=zjb [115,116,97,114,116] (by decide) p.start (by omega) g1 r1
  have c2:=zjb [109,101,115,115,97,103,101] (by decide) p.message (by omega) g2 r2
  have c3:=zjb [116,105,99,107] (by decide) p.tick (by omega) g3 r3
  have c4:=zjb [105,110,112,117,116] (by decide) p.input (by omega) g4 r4
  have hbv:=hbt
  simp only [List.length_append] at hbv
  unfold pgA at ck ⊢
  refine zas (fun d=>if d=1 then 0 else 1) 2 zH3 ?_
  refine Wk1 (fA2 zyf (CE.mk zhg ck)) ?_
  refine zaK (ι:={q:Nat × List UInt8 // q.1≤p.vars.length∧q.2++vsT (p.vars.drop q.1)=vsT p.vars}) (fun i=>⟨(.junk::.ref 0 0::jl 3 (.pv (.str i.1.2)::.pv (.int .i64 i.1.1)::jl 91 [])),[some (.cells [.pv (.slice (p.vars.map zav)),.pv (.slice (p.start.map zah)),.pv (.slice (p.message.map zah)),.pv (.slice (p.tick.map zah)),.pv (.slice (p.input.map zah))]),none]⟩) (fun i=>p.vars.length - i.1.1) ⟨(0,[]),by simp⟩ WFn ?_
  rintro ⟨⟨k,u⟩,hk,hu⟩
  replace hk:k≤p.vars.length:=hk
  replace hu:u++vsT (p.vars.drop k)=vsT p.vars:=hu
  by_cases hlt:k<p.vars.length
  ·have hlt':(k:Int)<p.vars.length:=by omega
   have hget:=zaE zav p.vars k hlt
   have hx:rgV p.vars[k]=true:=List.all_eq_true.1 hrv _ (List.getElem_mem hlt)
   have hgx:zbA p.vars[k]=true:=zn4 g0 (List.getElem_mem hlt)
   have hvs:vsT (p.vars.drop k)=vaT p.vars[k]++vsT (p.vars.drop (k+1)):=by
    rw [List.drop_eq_getElem_cons hlt];simp only [vsT,List.map_cons,List.flatten_cons]
   rw [hvs] at hu
   have hlen:=congrArg List.length hu
   simp only [List.length_append] at hlen
   generalize p.vars[k]=x at *
   have hw:=zaP k (by omega)
   have hxe:zav x=[.str x.name,.int .i64 x.size,.int .i64 x.init]:=rfl
   unfold rgV zf4 at hx
   simp only [Bool.and_eq_true,decide_eq_true_eq] at hx
   have hsz:0≤x.size:=zmE hgx
   have hin:x.init≠-9223372036854775808:=zmF hgx
   have fin:∀ t:List UInt8,u++vaT x=t→k+1≤p.vars.length∧t++vsT (p.vars.drop (k+1))=vsT p.vars:=fun t ht=>⟨by omega,by rw [←ht,←hu];simp only [List.append_assoc]⟩
   have i1:=zeN x.size (by omega)
   have i2:=zeN x.init (by omega)
   have i3:=zeN (-x.init) (by omega)
   have hng:=zsm x.init (by omega) (by omega)
   by_cases hz:x.size > 0
   ·have ev:u++vaT x=u++([97,114,114,97,121,32]++x.name++[91]++zei x.size++[93,59,10]):=by
     unfold vaT itT
     rw [if_pos (by omega),if_neg (by omega)]
    have evl:=congrArg List.length ev
    simp only [List.length_append,List.length_cons,List.length_nil] at evl
    have fi:=fin _ ev
    clear fin ev hu
    repeat' first|refine Va (zgj zyf hlt' hlt hget hxe hw hz @List.length_append.{0} @List.length_cons.{0} @List.length_nil.{0}) ?_|(with_reducible first|refine SB.c ?_ ?_<;>intro _|exact zak)|refine CK.d0 zhf i1 ?_|with_reducible refine zaj ?_|omega
    exact ⟨⟨(k+1,u++([97,114,114,97,121,32]++x.name++[91]++zei x.size++[93,59,10])),fi⟩,WFn,by show p.vars.length - (k+1)<p.vars.length - k;omega⟩
   ·by_cases hi:x.init > 0
    ·have ev:u++vaT x=u++([118,97,114,32]++x.name++[32,61,32]++zei x.init++[59,10]):=by
      unfold vaT itT
      rw [if_neg (by omega),if_pos (by omega),if_neg (by omega)]
     have evl:=congrArg List.length ev
     simp only [List.length_append,List.length_cons,List.length_nil] at evl
     have fi:=fin _ ev
     clear fin ev hu
     repeat' first|refine Va (zg7 zyf hlt' hlt hget hxe hw hz hi @List.length_append.{0} @List.length_cons.{0} @List.length_nil.{0}) ?_|(with_reducible first|refine SB.c ?_ ?_<;>intro _|exact zak)|refine CK.d0 zhf i2 ?_|with_reducible refine zaj ?_|omega
     exact ⟨⟨(k+1,u++([118,97,114,32]++x.name++[32,61,32]++zei x.init++[59,10])),fi⟩,WFn,by show p.vars.length - (k+1)<p.vars.length - k;omega⟩
    ·by_cases hi2:x.init<0
     ·have ev:u++vaT x=u++([118,97,114,32]++x.name++[32,61,32,45]++zei (-x.init)++[59,10]):=by
       unfold vaT itT
       rw [if_neg (by omega),if_pos (by omega),if_pos (by omega)]
       simp
      have evl:=congrArg List.length ev
      simp only [List.length_append,List.length_cons,List.length_nil] at evl
      have fi:=fin _ ev
      clear fin ev hu
      repeat' first|refine Va (zhQ zyf hlt' hlt hget hxe hw hz hi hi2 hng @List.length_append.{0} @List.length_cons.{0} @List.length_nil.{0}) ?_|(with_reducible first|refine SB.c ?_ ?_<;>intro _|exact zak)|refine CK.d0 zhf i3 ?_|with_reducible refine zaj ?_|omega
      exact ⟨⟨(k+1,u++([118,97,114,32]++x.name++[32,61,32,45]++zei (-x.init)++[59,10])),fi⟩,WFn,by show p.vars.length - (k+1)<p.vars.length - k;omega⟩
     ·have ev:u++vaT x=u++([118,97,114,32]++x.name++[59,10]):=by
       unfold vaT
       rw [if_neg (by omega),if_neg (by omega)]
      have evl:=congrArg List.length ev
      simp only [List.length_append,List.length_cons,List.length_nil] at evl
      have fi:=fin _ ev
      clear fin ev hu
      repeat' first|refine Va (zg8 zyf hlt' hlt hget hxe hw hz hi hi2 @List.length_append.{0} @List.length_cons.{0} @List.length_nil.{0}) ?_|(with_reducible first|refine SB.c ?_ ?_<;>intro _|exact zak)|with_reducible refine zaj ?_|omega
      exact ⟨⟨(k+1,u++([118,97,114,32]++x.name++[59,10])),fi⟩,WFn,by show p.vars.length - (k+1)<p.vars.length - k;omega⟩
  ·have hlt':¬ (k:Int)<p.vars.length:=by omega
   rw [List.drop_eq_nil_of_le (by omega)] at hu
   simp only [vsT,List.map_nil,List.flatten_nil,List.append_nil] at hu
   replace hu:u=vsT p.vars:=hu
   subst hu
   generalize hdT [115,116,97,114,116] p.start=t1 at *
   generalize hdT [109,101,115,115,97,103,101] p.message=t2 at *
   generalize hdT [116,105,99,107] p.tick=t3 at *
   generalize hdT [105,110,112,117,116] p.input=t4 at *
   generalize vsT p.vars=t0 at *
   have hgl:((t0.length:Nat):Int)+(t1.length+t2.length+t3.length+t4.length)=(((t0++(t1++t2++t3++t4)).length:Nat):Int):=by simp;omega
   by_cases h1:(((t0++(t1++t2++t3++t4)).length:Nat):Int) > 4096
   ·rw [if_pos h1]
    rw [←hgl] at h1
    repeat' first|refine Va (fA4 zyf hlt' h1 @List.length_append.{0}) ?_|(with_reducible first|refine SB.c ?_ ?_<;>intro _|exact zak)|refine CK.d0 zeq c1 ?_|refine CK.d0 zeq c2 ?_|refine CK.d0 zeq c3 ?_|refine CK.d0 zeq c4 ?_|with_reducible refine zaj ?_|omega
   ·rw [if_neg h1]
    rw [←hgl] at h1
    repeat' first|refine Va (fA4 zyf hlt' h1 @List.length_append.{0}) ?_|(with_reducible first|refine SB.c ?_ ?_<;>intro _|exact zak)|refine CK.d0 zeq c1 ?_|refine CK.d0 zeq c2 ?_|refine CK.d0 zeq c3 ?_|refine CK.d0 zeq c4 ?_|with_reducible refine zaj ?_|omega
 ·rw [if_pos h0]
  unfold pgA at ck ⊢
  refine zas (fun d=>if d=1 then 0 else 1) 2 zH3 ?_
  refine Wk0 (fA3 zyf h0 (CE.mk zhg ck))
end Go.Proofs.YtfinhhblcdkpgaaGreatDoor
