/- The reference's resolver: looking up, names, expressions. No condition. -/
import Derived.Test.YtfinhhblcdkpgaaGreatDoorLib2
import Derived.Test.YtfinhhblcdkpgaaGreatDoorS5
import Derived.Test.YtfinhhblcdkpgaaGreatDoorS2
import Derived.Test.YtfinhhblcdkpgaaGreatDoorLib3
set_option maxRecDepth 100000
set_option maxHeartbeats 64000000
set_option linter.unusedSimpArgs false
set_option linter.unusedVariables false
namespace Go.Proofs.YtfinhhblcdkpgaaGreatDoor
open Go Go.Abs
structure LkI (l:List VarD) (name:List UInt8) where
 k:Nat
 first:Int
 hk:k≤l.length
 h0:0≤first
 h1:first≤2147483648
 eq:zaM name first (l.drop k)=zaM name 0 l
theorem zq4 (v:VarD):AC Tryz.prog gl 78 [.agg [.pv (.str v.name),.pv (.int .i64 v.size),.pv (.int .i64 v.init)]] [] (.pv (.int .i64 (zoh (mx v.size 1) 2147483649))) []:=by
 refine zas (fun d=>0) 1 zJ0 ?_
 refine Wk0 (fA2 zJx @mx.eq_1)
theorem zjd (l:List VarD) (name:List UInt8) (hl:l.length≤1000000) :
  AC Tryz.prog gl 109 [.pv (.slice (l.map zav)),.pv (.str name)] [] (zrM name l) []:=by
 unfold zrM
 refine zas (fun _=>0) 0 zG2 ?_
 refine Wk1 ztI ?_
 refine zaK (ι:=LkI l name) (fun i=>⟨(.pv (.slice (l.map zav))::.pv (.str name)::jl 5 (.pv (.int .i64 i.first)::.pv (.int .i64 i.k)::jl 29 [])),[]⟩) (fun i=>l.length - i.k) ⟨0,0,by simp,by simp,by simp,by simp⟩ WFn ?_
 rintro ⟨k,first,hk,h0,h1,heq⟩
 by_cases hlt:k<l.length
 ·have hlt':(k:Int)<l.length:=by omega
  have hget:=zaE zav l k hlt
  rw [List.drop_eq_getElem_cons hlt,zaM] at heq
  generalize l[k]=x at *
  have hxe:zav x=[.str x.name,.int .i64 x.size,.int .i64 x.init]:=rfl
  have hw:=zaP k (by omega)
  obtain ⟨c1,c2,c3,c4⟩:=zue first x.size h0 h1
  have hw1:IntKind.i64.wrap (first+zoh (mx x.size 1) 2147483649)=first+zoh (mx x.size 1) 2147483649:=zay _ (by omega) (by omega)
  have hc:=zq4 x
  cases h2:x.name==name
  ·by_cases h3:mx x.size 1 > 2147483648 - first
   ·have h4:=c1.2 h3
    rw [if_neg (by rw [h2];simp),if_pos h3] at heq
    rw [←heq]
    refine Wk0 (fA9 ztI hlt' hlt hget hxe h2 hw1 h4 (CE.mk ziX hc))
   ·have h4:=mt c1.1 h3
    rw [if_neg (by rw [h2];simp),if_neg h3] at heq
    refine Wk1 (zgj ztI hlt' hlt hget hxe h2 hw1 h4 hw (CE.mk ziX hc)) ?_
    exact ⟨⟨k+1,first+zoh (mx x.size 1) 2147483649,by omega,by omega,by omega,by rw [←heq,c2 h3]⟩,WFn,by show l.length - (k+1)<l.length - k;omega⟩
  ·rw [if_pos h2] at heq
   rw [←heq]
   refine Wk0 (fA7 ztI hlt' hlt hget hxe h2 @mx.eq_1)
 ·have hlt':¬ (k:Int)<l.length:=by omega
  rw [List.drop_eq_nil_of_le (by omega),zaM] at heq
  rw [←heq]
  refine Wk0 (fA2 ztI hlt')
theorem zq5 (l:List VarD) (hl:l.length≤1000000) (n:Nat):∀ e:Ex,szE e≤n→n≤1000000000→AC Tryz.prog gl 110 [.pv (.slice (l.map zav)),exP e] [] (.pv (.bool (zeu l e))) []:=by
 induction n with
 |zero=>intro e h;have:=zbw e;omega
 |succ n ih=>
  intro e hd hn
  have hsz:=zgv e
  have hal:=zdV e.args
  have hge:=zuf l e
  have cl:=zjd l e.name hl
  unfold zrM at cl
  have hf:(zaM e.name 0 l).2.2=zqk l e.name:=rfl
  rw [hf] at cl
  generalize (zaM e.name 0 l).1=q1 at *
  generalize (zaM e.name 0 l).2.1=q2 at *
  unfold exP
  refine zas (fun _=>0) 1 zG3 ?_
  repeat' first|refine Va zwL ?_|(with_reducible first|refine SB.c ?_ ?_<;>intro _|exact zak)|refine CK.d0 zhm cl ?_|((with_reducible first|refine VX.sb (fun hb=>?_) (fun hb=>?_)|refine CK.sb (fun hb=>?_) (fun hb=>?_)|refine VX.sa (fun hb=>?_) (fun hb=>?_)|refine CK.sa (fun hb=>?_) (fun hb=>?_))<;>simp only [hb])|with_reducible refine zaj ?_|omega
  all_goals clear cl
  all_goals try (clear ih;rw [hge];grind)
  all_goals (
   have hh:zeu l e=zdf l e.args:=by
    clear ih
    rw [hge]
    grind
   rw [hh]
   refine zaK (ι:={k:Nat // k≤e.args.length∧zdf l e.args=zdf l (e.args.drop k)}) (fun i=>⟨(.pv (.slice (l.map zav))::.junk::.junk::.ref 0 0::jl 4 (.pv (.int .i64 i.1)::jl 35 [])),[some (.cells [.pv (.int .i64 e.op),.pv (.int .i64 e.value),.pv (.str e.name),.pv (.int .i64 e.slot),.pv (.int .i64 e.size),.pv (.slice (e.args.map zbq))])]⟩) (fun i=>e.args.length - i.1) ⟨0,by simp⟩ WFn ?_
   rintro ⟨k,hk,hkg⟩
   by_cases hlt:k<e.args.length
   ·have hlt':(k:Int)<e.args.length:=by omega
    have hget:=zaE zbq e.args k hlt
    have hdx:=zcP e.args e.args[k] (List.getElem_mem hlt)
    rw [List.drop_eq_getElem_cons hlt,zdf] at hkg
    generalize hx:e.args[k]=x at *
    have hxe:=zaz x
    have hic:=ih x (by omega) (by omega)
    have hw:=zaP k (by omega)
    cases hgx:zeu l x
    ·rw [hgx,Bool.false_and] at hkg
     rw [hgx] at hic
     refine Wk0 (fA7 zwL hlt' hlt hget hxe hkg (CE.mk zhn hic))
    ·rw [hgx,Bool.true_and] at hkg
     rw [hgx] at hic
     refine Wk1 (fA7 zwL hlt' hlt hget hxe hw (CE.mk zhn hic)) ?_
     exact ⟨⟨k+1,by omega,hkg⟩,WFn,by show e.args.length - (k+1)<e.args.length - k;omega⟩
   ·have hlt':¬ (k:Int)<e.args.length:=by omega
    rw [List.drop_eq_nil_of_le (by omega),zdf] at hkg
    (repeat' (first|refine Va (fA3 zwL hlt' hkg) ?_|(with_reducible first|refine SB.c ?_ ?_<;>intro _|exact zak)|with_reducible refine zaj ?_|omega)))
theorem zku (l:List VarD) (hl:l.length≤1000000) (s:List Sm) (hs:s.length≤1000000000)
  (cE:∀ x ∈ s,AC Tryz.prog gl 110 [.pv (.slice (l.map zav)),exP x.place] [] (.pv (.bool (zeu l x.place))) []∧AC Tryz.prog gl 110 [.pv (.slice (l.map zav)),exP x.value] [] (.pv (.bool (zeu l x.value))) [])
  (cL:∀ x ∈ s,AC Tryz.prog gl 79 [.pv (.slice (l.map zav)),.pv (.slice (x.body.map zah))] [] (.pv (.bool (zcI l x.body))) []∧AC Tryz.prog gl 79 [.pv (.slice (l.map zav)),.pv (.slice (x.els.map zah))] [] (.pv (.bool (zcI l x.els))) []) :
  AC Tryz.prog gl 79 [.pv (.slice (l.map zav)),.pv (.slice (s.map zah))] [] (.pv (.bool (zcI l s))) []:=by
 refine zas (fun _=>0) 0 zJ1 ?_
 refine Wk1 zGt ?_
 refine zaK (ι:={k:Nat // k≤s.length∧zcI l s=zcI l (s.drop k)}) (fun i=>⟨(.pv (.slice (l.map zav))::.pv (.slice (s.map zah))::jl 3 (.pv (.int .i64 i.1)::jl 76 [])),[]⟩) (fun i=>s.length - i.1) ⟨0,by simp⟩ WFn ?_
 rintro ⟨k,hk,hkg⟩
 by_cases hlt:k<s.length
 ·have hlt':(k:Int)<s.length:=by omega
  have hget:=zaE zah s k hlt
  have hmem:s[k] ∈ s:=List.getElem_mem hlt
  rw [List.drop_eq_getElem_cons hlt,zcI] at hkg
  obtain ⟨cP,cV⟩:=cE s[k] hmem
  obtain ⟨cB,cN⟩:=cL s[k] hmem
  clear cE cL
  generalize hx:s[k]=x at *
  have hxe:=zag x
  have hgx:=zxh l x
  have cl:=zjd l x.name hl
  unfold zrM at cl
  have hf:(zaM x.name 0 l).2.2=zqk l x.name:=rfl
  rw [hf] at cl
  generalize (zaM x.name 0 l).1=q1 at *
  generalize (zaM x.name 0 l).2.1=q2 at *
  have hw:=zaP k (by omega)
  repeat' first|refine Va (fA6 zGt hlt' hlt hget hxe hw) ?_|(with_reducible first|refine SB.c ?_ ?_<;>intro _|exact zak)|refine CK.d0 zhm cl ?_|refine CK.d0 zhn cP ?_|refine CK.d0 zhn cV ?_|refine CK.d0 zcg cB ?_|refine CK.d0 zcg cN ?_|((with_reducible first|refine VX.sb (fun hb=>?_) (fun hb=>?_)|refine CK.sb (fun hb=>?_) (fun hb=>?_)|refine VX.sa (fun hb=>?_) (fun hb=>?_)|refine CK.sa (fun hb=>?_) (fun hb=>?_))<;>simp only [hb])|with_reducible refine zaj ?_|omega
  all_goals clear cP cV cB cN cl
  all_goals try (
   have hz:zmc l x=false:=by (rw [hgx];grind)
   rw [hkg,hz,Bool.false_and]
   done)
  all_goals (
   have hz:zmc l x=true:=by (rw [hgx];grind)
   rw [hz,Bool.true_and] at hkg
   exact ⟨⟨k+1,by omega,hkg⟩,WFn,by show s.length - (k+1)<s.length - k;omega⟩)
 ·have hlt':¬ (k:Int)<s.length:=by omega
  rw [List.drop_eq_nil_of_le (by omega),zcI] at hkg
  refine Wk0 (fA3 zGt hlt' hkg)
theorem zmJ (l:List VarD) (hl:l.length≤1000000) (n:Nat):n≤1000000000→∀ s:List Sm,zbz s≤n→AC Tryz.prog gl 79 [.pv (.slice (l.map zav)),.pv (.slice (s.map zah))] [] (.pv (.bool (zcI l s))) []:=by
 induction n with
 |zero=>intro hn s hs;exact zku l hl s (by have:=zbO s;omega) (fun x hx=>by have:=zaV s x hx;have:=zcm x;omega) (fun x hx=>by have:=zaV s x hx;have:=zcm x;omega)
 |succ n ih=>
  intro hn s hs
  exact zku l hl s (by have:=zbO s;omega) (fun x hx=>by
   have:=zaV s x hx;have:=zea x
   exact ⟨zq5 l hl n x.place (by omega) (by omega),zq5 l hl n x.value (by omega) (by omega)⟩) (fun x hx=>by
   have:=zaV s x hx;have:=zea x;have:=zbw x.place
   exact ⟨ih (by omega) x.body (by omega),ih (by omega) x.els (by omega)⟩)
theorem ze4 (l:List VarD) (hl:l.length≤1000000) (s:List Sm) (hs:zbz s≤1000000000):AC Tryz.prog gl 79 [.pv (.slice (l.map zav)),.pv (.slice (s.map zah))] [] (.pv (.bool (zcI l s))) []:=zmJ l hl _ (Nat.le_refl _) s hs
end Go.Proofs.YtfinhhblcdkpgaaGreatDoor
