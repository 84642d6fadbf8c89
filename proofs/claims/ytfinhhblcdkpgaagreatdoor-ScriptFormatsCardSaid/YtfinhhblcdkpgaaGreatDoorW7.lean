/- A part of the walk (Tryz_W7): its theorems have no condition beyond what they state. -/
import Derived.Test.YtfinhhblcdkpgaaGreatDoorW6
import Derived.Test.YtfinhhblcdkpgaaGreatDoorLib3
set_option maxRecDepth 100000
set_option maxHeartbeats 64000000
set_option linter.unusedSimpArgs false
set_option linter.unusedVariables false
set_option linter.defProp false
namespace Go.Proofs.YtfinhhblcdkpgaaGreatDoor
open Go Go.Abs Go.RowKit
theorem zlV (n:Nat) (l:List Sm) (hl:l.length≤1000000) (hg:zao l=true) (hb:(lsT n l).length≤100000000000000)
  (cV:∀ s ∈ l,AC Tryz.prog gl 102 [exP s.value] [] (.pv (.str (fmE s.value))) [])
  (cP:∀ s ∈ l,(s.kind=2∨s.kind=5)→AC Tryz.prog gl 102 [exP s.place] [] (.pv (.str (fmE s.place))) [])
  (cB:∀ s ∈ l,(lsT (n+1) s.body).length≤100000000000000→AC Tryz.prog gl 73 [.pv (.slice (s.body.map zah)),.pv (.str (zbC (n+1)))] [] (.pv (.str (lsT (n+1) s.body))) [])
  (cN:∀ s ∈ l,(lsT (n+1) s.els).length≤100000000000000→AC Tryz.prog gl 73 [.pv (.slice (s.els.map zah)),.pv (.str (zbC (n+1)))] [] (.pv (.str (lsT (n+1) s.els))) []) :
  AC Tryz.prog gl 73 [.pv (.slice (l.map zah)),.pv (.str (zbC n))] [] (.pv (.str (lsT n l))) []:=by
 have hi:zbC (n+1)=zbC n++[32,32]:=by
  unfold zbC
  rw [show 2 * (n+1)=2 * n+2 by omega,←List.replicate_append_replicate]
  rfl
 refine zam (fun _=>0) 1 zFq ?_
 (repeat' (first|refine Va zty ?_|(with_reducible first|refine SB.c ?_ ?_<;>intro _|exact zac)|with_reducible refine zab ?_|omega))
 refine za6 (ι:={q:Nat × List UInt8 // q.1≤l.length∧q.2++lsT n (l.drop q.1)=lsT n l}) (fun i=>⟨(.pv (.slice (l.map zah))::.pv (.str (zbC n))::jl 3 (.pv (.str i.1.2)::.pv (.int .i64 i.1.1)::jl 120 [])),[none]⟩) (fun i=>l.length - i.1.1) ⟨(0,[]),by simp⟩ WFn ?_
 rintro ⟨⟨k,u⟩,hk,hu⟩
 replace hk:k≤l.length:=hk
 replace hu:u++lsT n (l.drop k)=lsT n l:=hu
 by_cases hlt:k<l.length
 ·have hlt':(k:Int)<l.length:=by omega
  have hget:=zaN zah l k hlt
  have hmem:l[k] ∈ l:=List.getElem_mem hlt
  have hgx:=zd0 hg hmem
  replace cV:=cV _ hmem
  replace cP:=cP _ hmem
  replace cB:=cB _ hmem
  replace cN:=cN _ hmem
  rw [List.drop_eq_getElem_cons hlt,lsT] at hu
  have hlen:=congrArg List.length hu
  rw [←hu] at hb
  simp only [List.length_append] at hlen hb
  generalize l[k]=x at *
  have hxe:=zar x
  obtain ⟨g1,g2,g3,g4,g5,g6⟩:=zge hgx
  have hw:=zbc k (by omega)
  have hsx:=zju n x
  have fin:∀ t:List UInt8,u++zbC n++stT n x=t→k+1≤l.length∧t++lsT n (l.drop (k+1))=lsT n l:=fun t ht=>⟨by omega,by rw [←ht,←hu];simp only [List.append_assoc]⟩
  have hK:x.kind=1∨x.kind=2∨x.kind=3∨x.kind=4∨x.kind=5∨x.kind=6:=by omega
  rcases hK with h1|h1|h1|h1|h1|h1
  ·have ev:u++zbC n++stT n x=u++zbC n++(x.name++[32,61,32]++fmE x.value++[59,10]):=by
    rw [hsx,h1]
    simp only [fmS,List.append_assoc,List.nil_append,if_true,if_false,Bool.false_eq_true,eq_self,Int.reduceEq,↓reduceIte,Nat.reduceEqDiff,reduceCtorEq]
   have evl:=congrArg List.length ev
   simp only [List.length_append,List.length_cons,List.length_nil] at evl
   have fi:=fin _ ev
   clear fin ev hsx hu hgx hg g2 g3 g4 g5 g6
   (repeat' (first|refine Va (zpB zty hlt' hlt hget hxe hw h1 @List.length_append.{0} @List.length_cons.{0} @List.length_nil.{0}) ?_|(with_reducible first|refine SB.c ?_ ?_<;>intro _|exact zac)|refine CK.d0 zbG cV ?_|with_reducible refine zab ?_|omega))
   exact ⟨⟨(k+1,u++zbC n++(x.name++[32,61,32]++fmE x.value++[59,10])),fi⟩,WFn,by show l.length - (k+1)<l.length - k;omega⟩
  ·have ev:u++zbC n++stT n x=u++zbC n++(x.name++[91]++fmE x.place++[93,32,61,32]++fmE x.value++[59,10]):=by
    rw [hsx,h1]
    simp only [fmS,List.append_assoc,List.nil_append,if_true,if_false,Bool.false_eq_true,eq_self,Int.reduceEq,↓reduceIte,Nat.reduceEqDiff,reduceCtorEq]
   have evl:=congrArg List.length ev
   simp only [List.length_append,List.length_cons,List.length_nil] at evl
   have cP:=cP (by omega)
   have fi:=fin _ ev
   clear fin ev hsx hu hgx hg g2 g3 g4 g5 g6
   (repeat' (first|refine Va (zpB zty hlt' hlt hget hxe hw h1 @List.length_append.{0} @List.length_cons.{0} @List.length_nil.{0}) ?_|(with_reducible first|refine SB.c ?_ ?_<;>intro _|exact zac)|refine CK.d0 zbG cP ?_|refine CK.d0 zbG cV ?_|with_reducible refine zab ?_|omega))
   exact ⟨⟨(k+1,u++zbC n++(x.name++[91]++fmE x.place++[93,32,61,32]++fmE x.value++[59,10])),fi⟩,WFn,by show l.length - (k+1)<l.length - k;omega⟩
  ·by_cases hels:((x.els.length:Nat):Int) > 0
   ·have ev:u++zbC n++stT n x=u++zbC n++([105,102,32]++fmE x.value++[32,123,10]++lsT (n+1) x.body)++(zbC n++[125,32,101,108,115,101,32,123,10]++lsT (n+1) x.els)++(zbC n++[125,10]):=by
     rw [hsx,h1,decide_eq_true (show x.els.length > 0 by omega)]
     simp only [fmS,List.append_assoc,List.nil_append,if_true,if_false,Bool.false_eq_true,eq_self,Int.reduceEq,↓reduceIte,Nat.reduceEqDiff,reduceCtorEq]
    have evl:=congrArg List.length ev
    simp only [List.length_append,List.length_cons,List.length_nil] at evl
    have cB:=cB (by omega)
    rw [hi] at cB
    have cN:=cN (by omega)
    rw [hi] at cN
    have fi:=fin _ ev
    clear fin ev hsx hu hgx hg g2 g3 g4 g5 g6
    (repeat' (first|refine Va (zhT zty hlt' hlt hget hxe hw h1 hels @List.length_append.{0} @List.length_cons.{0} @List.length_nil.{0}) ?_|(with_reducible first|refine SB.c ?_ ?_<;>intro _|exact zac)|refine CK.d0 zbG cV ?_|refine CK.d0 zfX cB ?_|refine CK.d0 zfX cN ?_|with_reducible refine zab ?_|omega))
    exact ⟨⟨(k+1,u++zbC n++([105,102,32]++fmE x.value++[32,123,10]++lsT (n+1) x.body)++(zbC n++[125,32,101,108,115,101,32,123,10]++lsT (n+1) x.els)++(zbC n++[125,10])),fi⟩,WFn,by show l.length - (k+1)<l.length - k;omega⟩
   ·have ev:u++zbC n++stT n x=u++zbC n++([105,102,32]++fmE x.value++[32,123,10]++lsT (n+1) x.body)++(zbC n++[125,10]):=by
     rw [hsx,h1,decide_eq_false (show ¬ x.els.length > 0 by omega)]
     simp only [fmS,List.append_assoc,List.nil_append,if_true,if_false,Bool.false_eq_true,eq_self,Int.reduceEq,↓reduceIte,Nat.reduceEqDiff,reduceCtorEq]
    have evl:=congrArg List.length ev
    simp only [List.length_append,List.length_cons,List.length_nil] at evl
    have cB:=cB (by omega)
    rw [hi] at cB
    have fi:=fin _ ev
    clear fin ev hsx hu hgx hg g2 g3 g4 g5 g6
    (repeat' (first|refine Va (zhT zty hlt' hlt hget hxe hw h1 hels @List.length_append.{0} @List.length_cons.{0} @List.length_nil.{0}) ?_|(with_reducible first|refine SB.c ?_ ?_<;>intro _|exact zac)|refine CK.d0 zbG cV ?_|refine CK.d0 zfX cB ?_|with_reducible refine zab ?_|omega))
    exact ⟨⟨(k+1,u++zbC n++([105,102,32]++fmE x.value++[32,123,10]++lsT (n+1) x.body)++(zbC n++[125,10])),fi⟩,WFn,by show l.length - (k+1)<l.length - k;omega⟩
  ·have ev:u++zbC n++stT n x=u++zbC n++([119,104,105,108,101,32]++fmE x.value++[32,123,10]++lsT (n+1) x.body++zbC n++[125,10]):=by
    rw [hsx,h1,show x.els=[] from g6 (by omega),show decide (([]:List Sm).length > 0)=false from rfl]
    simp only [fmS,List.append_assoc,List.nil_append,if_true,if_false,Bool.false_eq_true,eq_self,Int.reduceEq,↓reduceIte,Nat.reduceEqDiff,reduceCtorEq]
   have evl:=congrArg List.length ev
   simp only [List.length_append,List.length_cons,List.length_nil] at evl
   have cB:=cB (by omega)
   rw [hi] at cB
   have fi:=fin _ ev
   clear fin ev hsx hu hgx hg g2 g3 g4 g5 g6
   (repeat' (first|refine Va (zpB zty hlt' hlt hget hxe hw h1 @List.length_append.{0} @List.length_cons.{0} @List.length_nil.{0}) ?_|(with_reducible first|refine SB.c ?_ ?_<;>intro _|exact zac)|refine CK.d0 zbG cV ?_|refine CK.d0 zfX cB ?_|with_reducible refine zab ?_|omega))
   exact ⟨⟨(k+1,u++zbC n++([119,104,105,108,101,32]++fmE x.value++[32,123,10]++lsT (n+1) x.body++zbC n++[125,10])),fi⟩,WFn,by show l.length - (k+1)<l.length - k;omega⟩
  ·have ev:u++zbC n++stT n x=u++zbC n++([115,101,110,100,32]++fmE x.place++[44,32]++fmE x.value++[59,10]):=by
    rw [hsx,h1]
    simp only [fmS,List.append_assoc,List.nil_append,if_true,if_false,Bool.false_eq_true,eq_self,Int.reduceEq,↓reduceIte,Nat.reduceEqDiff,reduceCtorEq]
   have evl:=congrArg List.length ev
   simp only [List.length_append,List.length_cons,List.length_nil] at evl
   have cP:=cP (by omega)
   have fi:=fin _ ev
   clear fin ev hsx hu hgx hg g2 g3 g4 g5 g6
   (repeat' (first|refine Va (zpB zty hlt' hlt hget hxe hw h1 @List.length_append.{0} @List.length_cons.{0} @List.length_nil.{0}) ?_|(with_reducible first|refine SB.c ?_ ?_<;>intro _|exact zac)|refine CK.d0 zbG cP ?_|refine CK.d0 zbG cV ?_|with_reducible refine zab ?_|omega))
   exact ⟨⟨(k+1,u++zbC n++([115,101,110,100,32]++fmE x.place++[44,32]++fmE x.value++[59,10])),fi⟩,WFn,by show l.length - (k+1)<l.length - k;omega⟩
  ·have ev:u++zbC n++stT n x=u++zbC n++([111,117,116,112,117,116,32]++fmE x.value++[59,10]):=by
    rw [hsx,h1]
    simp only [fmS,List.append_assoc,List.nil_append,if_true,if_false,Bool.false_eq_true,eq_self,Int.reduceEq,↓reduceIte,Nat.reduceEqDiff,reduceCtorEq]
   have evl:=congrArg List.length ev
   simp only [List.length_append,List.length_cons,List.length_nil] at evl
   have fi:=fin _ ev
   clear fin ev hsx hu hgx hg g2 g3 g4 g5 g6
   (repeat' (first|refine Va (zpB zty hlt' hlt hget hxe hw h1 @List.length_append.{0} @List.length_cons.{0} @List.length_nil.{0}) ?_|(with_reducible first|refine SB.c ?_ ?_<;>intro _|exact zac)|refine CK.d0 zbG cV ?_|with_reducible refine zab ?_|omega))
   exact ⟨⟨(k+1,u++zbC n++([111,117,116,112,117,116,32]++fmE x.value++[59,10])),fi⟩,WFn,by show l.length - (k+1)<l.length - k;omega⟩
 ·have hlt':¬ (k:Int)<l.length:=by omega
  rw [List.drop_eq_nil_of_le (by omega),lsT,List.append_nil] at hu
  subst hu
  (repeat' (first|refine Va (fA2 zty hlt') ?_|(with_reducible first|refine SB.c ?_ ?_<;>intro _|exact zac)|with_reducible refine zab ?_|omega))
theorem zm2 (m:Nat):m≤1000000→∀ (n:Nat) (l:List Sm),zbx l≤m→n+m≤2000000→zao l=true→zg2 l=true→(lsT n l).length≤100000000000000→AC Tryz.prog gl 73 [.pv (.slice (l.map zah)),.pv (.str (zbC n))] [] (.pv (.str (lsT n l))) []:=by
 induction m with
 |zero=>
  intro hm n l hl hn hg hr hb
  exact zlV n l (by have:=zbW l;omega) hg hb (fun s hs=>by have:=za1 l s hs;have:=zcW s;omega) (fun s hs=>by have:=za1 l s hs;have:=zcW s;omega) (fun s hs=>by have:=za1 l s hs;have:=zcW s;omega) (fun s hs=>by have:=za1 l s hs;have:=zcW s;omega)
 |succ m ih=>
  intro hm n l hl hn hg hr hb
  refine zlV n l (by have:=zbW l;omega) hg hb (fun s hs=>?_) (fun s hs hk=>?_) (fun s hs hb'=>?_) (fun s hs hb'=>?_)
  all_goals
   have h0:=za1 l s hs
   have h1:=zeA s
   have h2:=zbo s.place
   have h3:=zge (zd0 hg hs)
   have h4:=zkw hr hs
   rw [znW] at h4
   simp only [Bool.and_eq_true] at h4
  ·exact zor _ s.value (Nat.le_refl _) (by omega) h3.2.2.1 h4.1.1.2
  ·exact zor _ s.place (Nat.le_refl _) (by omega) (h3.2.1 hk) h4.1.1.1
  ·exact ih (by omega) (n+1) s.body (by omega) (by omega) h3.2.2.2.1 h4.1.2 hb'
  ·exact ih (by omega) (n+1) s.els (by omega) (by omega) h3.2.2.2.2.1 h4.2 hb'
theorem zrY (l:List Sm) (hl:zbx l≤1000000) (hg:zao l=true) (hr:zg2 l=true):AC Tryz.prog gl 73 [.pv (.slice (l.map zah)),.pv (.str [32,32])] [] (.pv (.str (lsT 1 l))) []:=
 zm2 _ (Nat.le_refl _) 1 l hl (by omega) hg hr (by have:=zgB 1 l hg (by omega);omega)
theorem zhs (nm:List UInt8) (hnm:nm.length≤10) (l:List Sm) (hl:zbx l≤1000000) (hg:zao l=true) (hr:zg2 l=true) :
  AC Tryz.prog gl 49 [.pv (.str nm),.pv (.slice (l.map zah))] [] (.pv (.str (hdT nm l))) []:=by
 have c:=zrY l hl hg hr
 have hb:=zgB 1 l hg (by omega)
 unfold hdT
 by_cases h0:l.length=0
 ·have h0':((l.length:Nat):Int)=0:=by omega
  rw [if_pos h0]
  refine zam (fun _=>0) 1 zDP ?_
  (repeat' (first|refine Va (fA2 zDF h0') ?_|(with_reducible first|refine SB.c ?_ ?_<;>intro _|exact zac)|with_reducible refine zab ?_|omega))
 ·have h0':¬ ((l.length:Nat):Int)=0:=by omega
  rw [if_neg h0]
  refine zam (fun _=>0) 1 zDP ?_
  (repeat' (first|refine Va (fA5 zDF h0' @List.length_append.{0} @List.length_cons.{0} @List.length_nil.{0}) ?_|(with_reducible first|refine SB.c ?_ ?_<;>intro _|exact zac)|refine CK.d0 zfX c ?_|with_reducible refine zab ?_|omega))
theorem zpx (p:PgD) (hp:szP p≤1000000) (hr:rgP p=true) :
  AC Tryz.prog gl 28 [pgA p] [] (.tup [.pv (.str (ziM p).1),.pv (.int .i64 (ziM p).2)]) []:=by
 have ck:=zrH p (by omega)
 unfold ziM
 by_cases h0:zcP zao p=0
 ·rw [h0] at ck
  rw [if_neg (by simpa using h0)]
  have hbt:=zmE p h0 hp
  obtain ⟨g0,g1,g2,g3,g4,_⟩:=zkv h0
  unfold rgP at hr
  simp only [Bool.and_eq_true] at hr
  obtain ⟨⟨⟨⟨hrv,r1⟩,r2⟩,r3⟩,r4⟩:=hr
  unfold szP at hp
  have hal:p.vars.length≤1000000:=by omega
  have ea:pgT p=vsT p.vars++(hdT [115,116,97,114,116] p.start++hdT [109,101,115,115,97,103,101] p.message++hdT [116,105,99,107] p.tick++hdT [105,110,112,117,116] p.input):=by
   unfold pgT;simp only [List.append_assoc]
  rw [ea] at hbt ⊢
  have c1:=zhs [115,116,97,114,116] (by decide) p.start (by omega) g1 r1
  have c2:=zhs [109,101,115,115,97,103,101] (by decide) p.message (by omega) g2 r2
  have c3:=zhs [116,105,99,107] (by decide) p.tick (by omega) g3 r3
  have c4:=zhs [105,110,112,117,116] (by decide) p.input (by omega) g4 r4
  have hbv:=hbt
  simp only [List.length_append] at hbv
  unfold pgA at ck ⊢
  refine zam (fun d=>if d=1 then 0 else 1) 2 zDK ?_
  (repeat' (first|refine Va zuO ?_|(with_reducible first|refine SB.c ?_ ?_<;>intro _|exact zac)|refine CK.d0 znF ck ?_|with_reducible refine zab ?_|omega))
  refine za6 (ι:={q:Nat × List UInt8 // q.1≤p.vars.length∧q.2++vsT (p.vars.drop q.1)=vsT p.vars}) (fun i=>⟨(.junk::.ref 0 0::jl 3 (.pv (.str i.1.2)::.pv (.int .i64 i.1.1)::jl 91 [])),[some (.cells [.pv (.slice (p.vars.map zas)),.pv (.slice (p.start.map zah)),.pv (.slice (p.message.map zah)),.pv (.slice (p.tick.map zah)),.pv (.slice (p.input.map zah))]),none]⟩) (fun i=>p.vars.length - i.1.1) ⟨(0,[]),by simp⟩ WFn ?_
  rintro ⟨⟨k,u⟩,hk,hu⟩
  replace hk:k≤p.vars.length:=hk
  replace hu:u++vsT (p.vars.drop k)=vsT p.vars:=hu
  by_cases hlt:k<p.vars.length
  ·have hlt':(k:Int)<p.vars.length:=by omega
   have hget:=zaN zas p.vars k hlt
   have hx:rgV p.vars[k]=true:=List.all_eq_true.1 hrv _ (List.getElem_mem hlt)
   have hgx:zbt p.vars[k]=true:=zlU g0 (List.getElem_mem hlt)
   have hvs:vsT (p.vars.drop k)=vaT p.vars[k]++vsT (p.vars.drop (k+1)):=by
    rw [List.drop_eq_getElem_cons hlt];simp only [vsT,List.map_cons,List.flatten_cons]
   rw [hvs] at hu
   have hlen:=congrArg List.length hu
   simp only [List.length_append] at hlen
   generalize p.vars[k]=x at *
   have hw:=zbc k (by omega)
   have hxe:zas x=[.str x.name,.int .i64 x.size,.int .i64 x.init]:=rfl
   unfold rgV ze7 at hx
   simp only [Bool.and_eq_true,decide_eq_true_eq] at hx
   have hsz:0≤x.size:=zkN hgx
   have hin:x.init≠-9223372036854775808:=zkO hgx
   have fin:∀ t:List UInt8,u++vaT x=t→k+1≤p.vars.length∧t++vsT (p.vars.drop (k+1))=vsT p.vars:=fun t ht=>⟨by omega,by rw [←ht,←hu];simp only [List.append_assoc]⟩
   have i1:=zdO x.size (by omega)
   have i2:=zdO x.init (by omega)
   have i3:=zdO (-x.init) (by omega)
   have hng:=zpw x.init (by omega) (by omega)
   by_cases hz:x.size > 0
   ·have ev:u++vaT x=u++([97,114,114,97,121,32]++x.name++[91]++zdm x.size++[93,59,10]):=by
     unfold vaT itT
     rw [if_pos (by omega),if_neg (by omega)]
    have evl:=congrArg List.length ev
    simp only [List.length_append,List.length_cons,List.length_nil] at evl
    have fi:=fin _ ev
    clear fin ev hu
    (repeat' (first|refine Va (zpB zuO hlt' hlt hget hxe hw hz @List.length_append.{0} @List.length_cons.{0} @List.length_nil.{0}) ?_|(with_reducible first|refine SB.c ?_ ?_<;>intro _|exact zac)|refine CK.d0 zfW i1 ?_|with_reducible refine zab ?_|omega))
    exact ⟨⟨(k+1,u++([97,114,114,97,121,32]++x.name++[91]++zdm x.size++[93,59,10])),fi⟩,WFn,by show p.vars.length - (k+1)<p.vars.length - k;omega⟩
   ·by_cases hi:x.init > 0
    ·have ev:u++vaT x=u++([118,97,114,32]++x.name++[32,61,32]++zdm x.init++[59,10]):=by
      unfold vaT itT
      rw [if_neg (by omega),if_pos (by omega),if_neg (by omega)]
     have evl:=congrArg List.length ev
     simp only [List.length_append,List.length_cons,List.length_nil] at evl
     have fi:=fin _ ev
     clear fin ev hu
     (repeat' (first|refine Va (zhT zuO hlt' hlt hget hxe hw hz hi @List.length_append.{0} @List.length_cons.{0} @List.length_nil.{0}) ?_|(with_reducible first|refine SB.c ?_ ?_<;>intro _|exact zac)|refine CK.d0 zfW i2 ?_|with_reducible refine zab ?_|omega))
     exact ⟨⟨(k+1,u++([118,97,114,32]++x.name++[32,61,32]++zdm x.init++[59,10])),fi⟩,WFn,by show p.vars.length - (k+1)<p.vars.length - k;omega⟩
    ·by_cases hi2:x.init<0
     ·have ev:u++vaT x=u++([118,97,114,32]++x.name++[32,61,32,45]++zdm (-x.init)++[59,10]):=by
       unfold vaT itT
       rw [if_neg (by omega),if_pos (by omega),if_pos (by omega)]
       simp
      have evl:=congrArg List.length ev
      simp only [List.length_append,List.length_cons,List.length_nil] at evl
      have fi:=fin _ ev
      clear fin ev hu
      (repeat' (first|refine Va (zoZ zuO hlt' hlt hget hxe hw hz hi hi2 hng @List.length_append.{0} @List.length_cons.{0} @List.length_nil.{0}) ?_|(with_reducible first|refine SB.c ?_ ?_<;>intro _|exact zac)|refine CK.d0 zfW i3 ?_|with_reducible refine zab ?_|omega))
      exact ⟨⟨(k+1,u++([118,97,114,32]++x.name++[32,61,32,45]++zdm (-x.init)++[59,10])),fi⟩,WFn,by show p.vars.length - (k+1)<p.vars.length - k;omega⟩
     ·have ev:u++vaT x=u++([118,97,114,32]++x.name++[59,10]):=by
       unfold vaT
       rw [if_neg (by omega),if_neg (by omega)]
      have evl:=congrArg List.length ev
      simp only [List.length_append,List.length_cons,List.length_nil] at evl
      have fi:=fin _ ev
      clear fin ev hu
      (repeat' (first|refine Va (zmr zuO hlt' hlt hget hxe hw hz hi hi2 @List.length_append.{0} @List.length_cons.{0} @List.length_nil.{0}) ?_|(with_reducible first|refine SB.c ?_ ?_<;>intro _|exact zac)|with_reducible refine zab ?_|omega))
      exact ⟨⟨(k+1,u++([118,97,114,32]++x.name++[59,10])),fi⟩,WFn,by show p.vars.length - (k+1)<p.vars.length - k;omega⟩
  ·have hlt':¬ (k:Int)<p.vars.length:=by omega
   rw [List.drop_eq_nil_of_le (by omega)] at hu
   simp only [vsT,List.map_nil,List.flatten_nil,List.append_nil] at hu
   replace hu:u=vsT p.vars:=hu
   subst hu
   generalize hdT [115,116,97,114,116] p.start=t1 at *
   generalize hdT [109,101,115,115,97,103,101] p.message=t2 at *
   generalize hdT [116,105,99,107] p.tick=t3 at *
   generalize hdT [105,110,112,117,116] p.input=t4 at *
   generalize vsT p.vars=t0 at *
   have hgl:((t0.length:Nat):Int)+(t1.length+t2.length+t3.length+t4.length)=(((t0++(t1++t2++t3++t4)).length:Nat):Int):=by simp;omega
   by_cases h1:(((t0++(t1++t2++t3++t4)).length:Nat):Int) > 4096
   ·rw [if_pos h1]
    rw [←hgl] at h1
    (repeat' (first|refine Va (fA4 zuO hlt' h1 @List.length_append.{0}) ?_|(with_reducible first|refine SB.c ?_ ?_<;>intro _|exact zac)|refine CK.d0 zdw c1 ?_|refine CK.d0 zdw c2 ?_|refine CK.d0 zdw c3 ?_|refine CK.d0 zdw c4 ?_|with_reducible refine zab ?_|omega))
   ·rw [if_neg h1]
    rw [←hgl] at h1
    (repeat' (first|refine Va (fA4 zuO hlt' h1 @List.length_append.{0}) ?_|(with_reducible first|refine SB.c ?_ ?_<;>intro _|exact zac)|refine CK.d0 zdw c1 ?_|refine CK.d0 zdw c2 ?_|refine CK.d0 zdw c3 ?_|refine CK.d0 zdw c4 ?_|with_reducible refine zab ?_|omega))
 ·rw [if_pos h0]
  unfold pgA at ck ⊢
  refine zam (fun d=>if d=1 then 0 else 1) 2 zDK ?_
  (repeat' (first|refine Va (fA2 zuO h0) ?_|(with_reducible first|refine SB.c ?_ ?_<;>intro _|exact zac)|refine CK.d0 znF ck ?_|with_reducible refine zab ?_|omega))
end Go.Proofs.YtfinhhblcdkpgaaGreatDoor
