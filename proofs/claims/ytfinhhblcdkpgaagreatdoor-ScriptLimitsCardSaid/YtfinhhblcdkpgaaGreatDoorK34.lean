/- A part of the walk (Tryz_S1): its theorems have no condition beyond what they state. -/
import Derived.Test.YtfinhhblcdkpgaaGreatDoorT0
import Derived.Test.YtfinhhblcdkpgaaGreatDoorLib3
import Derived.Test.YtfinhhblcdkpgaaGreatDoorLib2
set_option maxRecDepth 100000
set_option maxHeartbeats 64000000
set_option linter.unusedSimpArgs false
set_option linter.unusedVariables false
set_option linter.defProp false
namespace Go.Proofs.YtfinhhblcdkpgaaGreatDoor
open Go Go.Abs
abbrev exP (e:Ex):AVal:=.agg [.pv (.int .i64 e.op),.pv (.int .i64 e.value),.pv (.str e.name),.pv (.int .i64 e.slot),.pv (.int .i64 e.size),.pv (.slice (e.args.map zbk))]
theorem zhR (n:Nat):∀ e:Ex,szE e≤n→n≤1000000000→AC Tryz.prog gl 164 [.pv (.ptr (zbk e))] [] (.pv (.int .i64 (zgl e))) []:=by
 induction n with
 |zero=>intro e h;have:=zbx e;omega
 |succ n ih=>
  intro e hd hn
  have hsz:=zgV e
  have hal:=zdJ e.args
  have hdz:=zjm e
  have he:=zaC e
  rw [he]
  refine zap (fun _=>0) 0 zFI ?_
  repeat' first|refine Va zyR ?_|(with_reducible first|refine SB.c ?_ ?_<;>intro _|exact zad)|with_reducible refine zac ?_|omega
  refine zaI (ι:={k:Nat // k≤e.args.length}) (fun i=>⟨(.pv (.ptr [.int .i64 e.op,.int .i64 e.value,.str e.name,.int .i64 e.slot,.int .i64 e.size,.slice (e.args.map zbk)])::.junk::.pv (.int .i64 0)::.pv (.int .i64 (zds 0 (e.args.take i.1)))::jl 5 (.pv (.int .i64 e.args.length)::.pv (.int .i64 i.1)::jl 14 [])),[]⟩) (fun i=>e.args.length - i.1) ⟨0,by omega⟩ (WFe (by simp [kwf,zds]) (by simp [kwf,zds])) ?_
  rintro ⟨k,hk⟩
  by_cases hlt:k<e.args.length
  ·have hlt':(k:Int)<e.args.length:=by omega
   have hget:=zaA zbk e.args k hlt
   have hmem:e.args[k] ∈ e.args:=List.getElem_mem hlt
   have hdx:=zcB e.args e.args[k] hmem
   have hsn:zds 0 (e.args.take (k+1))=mx (zds 0 (e.args.take k)) (zgl e.args[k]):=by
    rw [List.take_succ_eq_append_getElem hlt,zhr]
   generalize hx:e.args[k]=x at *
   have hlen:=zdr x
   have hw:=zaQ k (by omega)
   have hc:=ih x (by omega) (by omega)
   repeat' first|refine Va (fA6 zyR hlt' hlt hget hlen hw) ?_|(with_reducible first|refine SB.c ?_ ?_<;>intro _|exact zad)|refine CK.d0 zji hc ?_|with_reducible refine zac ?_|omega
   exact ⟨⟨k+1,by omega⟩,(WFe (by simp [kwf,hsn]) (by simp [kwf,hsn])),by show e.args.length - (k+1)<e.args.length - k;omega⟩
  ·have hlt':¬ (k:Int)<e.args.length:=by omega
   have hke:k=e.args.length:=by omega
   subst hke
   have hw2:IntKind.i64.wrap (1+zds 0 e.args)=zgl e:=by
    rw [zsQ] at hdz ⊢
    have:=zin 0 e.args
    exact zaS _ (by omega) (by omega)
   repeat' first|refine Va (fA4 zyR hlt' @List.take_length.{0} hw2) ?_|(with_reducible first|refine SB.c ?_ ?_<;>intro _|exact zad)|with_reducible refine zac ?_|omega
theorem znt (n:Nat) (hn:n≤1000000000) (ihl:∀ l:List Sm,zbT l≤n→AC Tryz.prog gl 91 [.pv (.slice (l.map zai))] [] (.pv (.int .i64 (zbE 0 l))) []) (s:Sm) (hs:szS s≤n+1):AC Tryz.prog gl 125 [.pv (.ptr (zai s))] [] (.pv (.int .i64 (zpt s))) []:=by
 have hsz:=zed s
 have h1:=zbx s.place
 have h2:=zbx s.value
 have hdz:=zof s
 have hdp:=zpu s
 have hds:=zoe s
 rw [zan]
 have hw:IntKind.i64.wrap (1+zgs (zgs (zgs (zgl s.place) (zgl s.value)) (zbE 0 s.body)) (zbE 0 s.els))=zpt s:=by
  rw [←hds];exact zaS _ (by omega) (by omega)
 have cP:=zhR n s.place (by omega) hn
 have cV:=zhR n s.value (by omega) hn
 rw [zaC] at cP cV
 have cB:=ihl s.body (by omega)
 have cE:=ihl s.els (by omega)
 refine zap (fun _=>0) 0 zFt ?_
 repeat' first|refine Va (fA2 zEW hw) ?_|(with_reducible first|refine SB.c ?_ ?_<;>intro _|exact zad)|refine CK.d0 zji cP ?_|refine CK.d0 zji cV ?_|refine CK.d0 zfG cB ?_|refine CK.d0 zfG cE ?_|with_reducible refine zac ?_|omega
theorem zhS (n:Nat) (hn:n≤1000000000) (l:List Sm) (hl:zbT l≤n) (ihs:∀ s:Sm,s ∈ l→AC Tryz.prog gl 125 [.pv (.ptr (zai s))] [] (.pv (.int .i64 (zpt s))) []):AC Tryz.prog gl 91 [.pv (.slice (l.map zai))] [] (.pv (.int .i64 (zbE 0 l))) []:=by
 have hal:=zbY l
 refine zap (fun _=>0) 0 zIp ?_
 repeat' first|refine Va zER ?_|(with_reducible first|refine SB.c ?_ ?_<;>intro _|exact zad)|with_reducible refine zac ?_|omega
 refine zaI (ι:={k:Nat // k≤l.length}) (fun i=>⟨(.pv (.slice (l.map zai))::.junk::.pv (.int .i64 0)::.pv (.int .i64 (zbE 0 (l.take i.1)))::.junk::.junk::.pv (.int .i64 l.length)::.pv (.int .i64 i.1)::jl 10 []),[]⟩) (fun i=>l.length - i.1) ⟨0,by omega⟩ (WFe (by simp [kwf,zbE]) (by simp [kwf,zbE])) ?_
 rintro ⟨k,hk⟩
 by_cases hlt:k<l.length
 ·have hlt':(k:Int)<l.length:=by omega
  have hget:=zaA zai l k hlt
  have hmem:l[k] ∈ l:=List.getElem_mem hlt
  have hsn:zbE 0 (l.take (k+1))=mx (zbE 0 (l.take k)) (zpt l[k]):=by
   rw [List.take_succ_eq_append_getElem hlt,zhs]
  have hc:=ihs l[k] hmem
  generalize hx:l[k]=x at *
  have hlen:=zhJ x
  have hw:=zaQ k (by omega)
  repeat' first|refine Va (fA6 zER hlt' hlt hget hlen hw) ?_|(with_reducible first|refine SB.c ?_ ?_<;>intro _|exact zad)|refine CK.d0 zsG hc ?_|with_reducible refine zac ?_|omega
  exact ⟨⟨k+1,by omega⟩,(WFe (by simp [kwf,hsn]) (by simp [kwf,hsn])),by show l.length - (k+1)<l.length - k;omega⟩
 ·have hlt':¬ (k:Int)<l.length:=by omega
  have hke:k=l.length:=by omega
  subst hke
  repeat' first|refine Va (fA3 zER hlt' @List.take_length.{0}) ?_|(with_reducible first|refine SB.c ?_ ?_<;>intro _|exact zad)|with_reducible refine zac ?_|omega
theorem zq1 (n:Nat):n≤1000000000→(∀ l:List Sm,zbT l≤n→AC Tryz.prog gl 91 [.pv (.slice (l.map zai))] [] (.pv (.int .i64 (zbE 0 l))) []):=by
 induction n with
 |zero=>intro hn l hl;exact zhS 0 hn l hl (fun s hs=>by have:=za1 l s hs;have:=zde s;omega)
 |succ n ih=>
  intro hn l hl
  exact zhS (n+1) hn l hl (fun s hs=>znt n (by omega) (ih (by omega)) s (by have:=za1 l s hs;omega))
theorem zej (l:List Sm) (hl:zbT l≤1000000000):AC Tryz.prog gl 91 [.pv (.slice (l.map zai))] [] (.pv (.int .i64 (zbE 0 l))) []:=zq1 _ (Nat.le_refl _) l hl
theorem zl1 (p:PgD) (hp:szP p≤1000000000):AC Tryz.prog gl 64 [pgA p] [] (.pv (.int .i64 (zuf p))) []:=by
 unfold szP at hp
 have c1:=zej p.start (by omega)
 have c2:=zej p.message (by omega)
 have c3:=zej p.tick (by omega)
 have c4:=zej p.input (by omega)
 unfold zuf pgA
 refine zap (fun _=>0) 1 zIe ?_
 repeat' first|refine Va zHQ ?_|(with_reducible first|refine SB.c ?_ ?_<;>intro _|exact zad)|refine CK.d0 zfG c1 ?_|refine CK.d0 zfG c2 ?_|refine CK.d0 zfG c3 ?_|refine CK.d0 zfG c4 ?_|with_reducible refine zac ?_|omega
theorem zty (n:Nat):∀ e:Ex,szE e≤n→n≤1000000000→AC Tryz.prog gl 132 [exP e] [] (.pv (.int .i64 (zgl e))) []:=by
 induction n with
 |zero=>intro e h;have:=zbx e;omega
 |succ n ih=>
  intro e hd hn
  have hsz:=zgV e
  have hal:=zdJ e.args
  have hdz:=zjm e
  rw [zsQ] at hdz ⊢
  have hde:=zin 0 e.args
  unfold exP
  refine zap (fun _=>0) 1 zFA ?_
  repeat' first|refine Va zyP ?_|(with_reducible first|refine SB.c ?_ ?_<;>intro _|exact zad)|with_reducible refine zac ?_|omega
  refine zaI (ι:={k:Nat // k≤e.args.length}) (fun i=>⟨(.junk::.ref 0 0::.junk::.pv (.int .i64 (zds 0 (e.args.take i.1)))::.pv (.int .i64 i.1)::jl 17 []),[some (.cells [.pv (.int .i64 e.op),.pv (.int .i64 e.value),.pv (.str e.name),.pv (.int .i64 e.slot),.pv (.int .i64 e.size),.pv (.slice (e.args.map zbk))])]⟩) (fun i=>e.args.length - i.1) ⟨0,by omega⟩ (WFe (by simp [kwf,zds]) (by simp [kwf,zds])) ?_
  rintro ⟨k,hk⟩
  by_cases hlt:k<e.args.length
  ·have hlt':(k:Int)<e.args.length:=by omega
   have hget:=zaA zbk e.args k hlt
   have hdx:=zcB e.args e.args[k] (List.getElem_mem hlt)
   have hsn:zds 0 (e.args.take (k+1))=mx (zds 0 (e.args.take k)) (zgl e.args[k]):=by
    rw [List.take_succ_eq_append_getElem hlt,zhr]
   generalize hx:e.args[k]=x at *
   have hxe:=zaC x
   have hic:=ih x (by omega) (by omega)
   have hw:=zaQ k (by omega)
   repeat' first|refine Va (fA6 zyP hlt' hlt hget hxe hw) ?_|(with_reducible first|refine SB.c ?_ ?_<;>intro _|exact zad)|refine CK.d0 zjf hic ?_|with_reducible refine zac ?_|omega
   exact ⟨⟨k+1,by omega⟩,(WFe (by simp [kwf,hsn]) (by simp [kwf,hsn])),by show e.args.length - (k+1)<e.args.length - k;omega⟩
  ·have hlt':¬ (k:Int)<e.args.length:=by omega
   have hke:k=e.args.length:=by omega
   subst hke
   have hw:IntKind.i64.wrap (zds 0 e.args+1)=1+zds 0 e.args:=by rw [zaS _ (by omega) (by omega)];omega
   repeat' first|refine Va (fA4 zyP hlt' @List.take_length.{0} hw) ?_|(with_reducible first|refine SB.c ?_ ?_<;>intro _|exact zad)|with_reducible refine zac ?_|omega
theorem znu (n:Nat) (hn:n≤1000000000) (l:List Sm) (hl:zbT l≤n) (ih:∀ s ∈ l,AC Tryz.prog gl 96 [.pv (.slice (s.body.map zai))] [] (.pv (.int .i64 (zbE 0 s.body))) []∧AC Tryz.prog gl 96 [.pv (.slice (s.els.map zai))] [] (.pv (.int .i64 (zbE 0 s.els))) []):AC Tryz.prog gl 96 [.pv (.slice (l.map zai))] [] (.pv (.int .i64 (zbE 0 l))) []:=by
 have hal:=zbY l
 refine zap (fun _=>0) 0 zIs ?_
 repeat' first|refine Va zET ?_|(with_reducible first|refine SB.c ?_ ?_<;>intro _|exact zad)|with_reducible refine zac ?_|omega
 refine zaI (ι:={k:Nat // k≤l.length}) (fun i=>⟨(.pv (.slice (l.map zai))::.junk::.junk::.pv (.int .i64 (zbE 0 (l.take i.1)))::.pv (.int .i64 i.1)::jl 35 []),[]⟩) (fun i=>l.length - i.1) ⟨0,by omega⟩ (WFe (by simp [kwf,zbE]) (by simp [kwf,zbE])) ?_
 rintro ⟨k,hk⟩
 by_cases hlt:k<l.length
 ·have hlt':(k:Int)<l.length:=by omega
  have hget:=zaA zai l k hlt
  have hmem:l[k] ∈ l:=List.getElem_mem hlt
  have hsn:zbE 0 (l.take (k+1))=mx (zbE 0 (l.take k)) (zpt l[k]):=by
   rw [List.take_succ_eq_append_getElem hlt,zhs]
  obtain ⟨cB,cE⟩:=ih l[k] hmem
  have hsm:=za1 l l[k] hmem
  generalize hx:l[k]=x at *
  have hsz:=zed x
  have hdz:=zof x
  have hdp:=zpu x
  have hds:=zoe x
  have cP:=zty n x.place (by omega) hn
  have cV:=zty n x.value (by omega) hn
  have hxe:=zan x
  have hw1:IntKind.i64.wrap (1+zgs (zgs (zgs (zgl x.place) (zgl x.value)) (zbE 0 x.body)) (zbE 0 x.els))=zpt x:=by
   rw [←hds];exact zaS _ (by omega) (by omega)
  have hw:=zaQ k (by omega)
  repeat' first|refine Va (fA7 zET hlt' hlt hget hxe hw hw1) ?_|(with_reducible first|refine SB.c ?_ ?_<;>intro _|exact zad)|refine CK.d0 zjf cP ?_|refine CK.d0 zjf cV ?_|refine CK.d0 zfH cB ?_|refine CK.d0 zfH cE ?_|with_reducible refine zac ?_|omega
  exact ⟨⟨k+1,by omega⟩,(WFe (by simp [kwf,hsn]) (by simp [kwf,hsn])),by show l.length - (k+1)<l.length - k;omega⟩
 ·have hlt':¬ (k:Int)<l.length:=by omega
  have hke:k=l.length:=by omega
  subst hke
  repeat' first|refine Va (fA3 zET hlt' @List.take_length.{0}) ?_|(with_reducible first|refine SB.c ?_ ?_<;>intro _|exact zad)|with_reducible refine zac ?_|omega
theorem zoy (n:Nat):n≤1000000000→(∀ l:List Sm,zbT l≤n→AC Tryz.prog gl 96 [.pv (.slice (l.map zai))] [] (.pv (.int .i64 (zbE 0 l))) []):=by
 induction n with
 |zero=>intro hn l hl;exact znu 0 hn l hl (fun s hs=>by have:=za1 l s hs;have:=zde s;omega)
 |succ n ih=>
  intro hn l hl
  exact znu (n+1) hn l hl (fun s hs=>by have:=za1 l s hs;have:=zed s;have:=zbx s.place;exact ⟨ih (by omega) _ (by omega),ih (by omega) _ (by omega)⟩)
theorem zg9 (l:List Sm) (hl:zbT l≤1000000000):AC Tryz.prog gl 96 [.pv (.slice (l.map zai))] [] (.pv (.int .i64 (zbE 0 l))) []:=zoy _ (Nat.le_refl _) l hl
theorem zjG (p:PgD) (hp:szP p≤1000000000):AC Tryz.prog gl 70 [pgA p] [] (.pv (.int .i64 (zuf p))) []:=by
 unfold szP at hp
 have c1:=zg9 p.start (by omega)
 have c2:=zg9 p.message (by omega)
 have c3:=zg9 p.tick (by omega)
 have c4:=zg9 p.input (by omega)
 unfold zuf pgA
 refine zap (fun _=>0) 1 zIh ?_
 repeat' first|refine Va zHS ?_|(with_reducible first|refine SB.c ?_ ?_<;>intro _|exact zad)|refine CK.d0 zfH c1 ?_|refine CK.d0 zfH c2 ?_|refine CK.d0 zfH c3 ?_|refine CK.d0 zfH c4 ?_|with_reducible refine zac ?_|omega
open Go Go.Abs Go.RowKit
def zq2:PgD:=⟨[],[],[],[],[]⟩
abbrev zPg:AVal:=.agg [.pv (.slice []),.pv (.slice []),.pv (.slice []),.pv (.slice []),.pv (.slice [])]
theorem glZ:AC Tryz.prog gl 66 [.pv (.slice [])] [] (.pv (.bool true)) []:=by
 refine zap (fun _=>0) 0 zGu ?_
 repeat' first|refine Va zzW ?_|(with_reducible first|refine SB.c ?_ ?_<;>intro _|exact zad)|with_reducible refine zac ?_|omega
 refine zaI (ι:=Unit) (fun i=>⟨(.pv (.slice [])::.junk::.pv (.bool false)::.junk::.junk::.pv (.int .i64 0)::.pv (.int .i64 0)::jl 8 []),[]⟩) (fun _=>0) () WFn ?_
 intro _
 repeat' first|refine Va zzW ?_|(with_reducible first|refine SB.c ?_ ?_<;>intro _|exact zad)|with_reducible refine zac ?_|omega
theorem fnZ:AC Tryz.prog gl 72 [.pv (.slice [])] [] (.pv (.bool true)) []:=by
 refine zap (fun _=>0) 1 zGv ?_
 repeat' first|refine Va zBZ ?_|(with_reducible first|refine SB.c ?_ ?_<;>intro _|exact zad)|with_reducible refine zac ?_|omega
 refine zaI (ι:=Unit) (fun i=>⟨(.pv (.slice [])::.junk::.junk::.pv (.int .i64 0)::jl 128 []),[none]⟩) (fun _=>0) () WFn ?_
 intro _
 repeat' first|refine Va zBZ ?_|(with_reducible first|refine SB.c ?_ ?_<;>intro _|exact zad)|with_reducible refine zac ?_|omega
theorem ckZ:AC Tryz.prog gl 42 [zPg] [] (.pv (.int .i64 0)) []:=by
 have hd:AC Tryz.prog gl 64 [zPg] [] (.pv (.int .i64 0)) []:=zl1 zq2 (by decide)
 have g:=glZ
 refine zap (fun d=>if d=4 then 1 else 0) 2 zFc ?_
 repeat' first|refine Va zyN ?_|(with_reducible first|refine SB.c ?_ ?_<;>intro _|exact zad)|refine CK.d0 zgJ hd ?_|with_reducible refine zac ?_|omega
 refine zaI (ι:=Unit) (fun i=>⟨(.junk::.ref 0 0::jl 7 (.pv (.slice [])::.pv (.int .i64 0)::.pv (.int .i64 0)::jl 29 [])),[some (.cells [.pv (.slice []),.pv (.slice []),.pv (.slice []),.pv (.slice []),.pv (.slice [])]),none]⟩) (fun _=>0) () WFn ?_
 intro _
 repeat' first|refine Va zyN ?_|(with_reducible first|refine SB.c ?_ ?_<;>intro _|exact zad)|refine CK.d0 zeE g ?_|with_reducible refine zac ?_|omega
theorem zIw:AC Tryz.prog gl 48 [zPg] [] (.pv (.int .i64 0)) []:=by
 have hd:AC Tryz.prog gl 70 [zPg] [] (.pv (.int .i64 0)) []:=zjG zq2 (by decide)
 have g:=fnZ
 refine zap (fun d=>if d=4 then 1 else 0) 2 zFd ?_
 repeat' first|refine Va zzU ?_|(with_reducible first|refine SB.c ?_ ?_<;>intro _|exact zad)|refine CK.d0 zgK hd ?_|with_reducible refine zac ?_|omega
 refine zaI (ι:=Unit) (fun i=>⟨(.junk::.ref 0 0::.junk::.pv (.int .i64 0)::jl 62 []),[some (.cells [.pv (.slice []),.pv (.slice []),.pv (.slice []),.pv (.slice []),.pv (.slice [])]),none]⟩) (fun _=>0) () WFn ?_
 intro _
 repeat' first|refine Va zzU ?_|(with_reducible first|refine SB.c ?_ ?_<;>intro _|exact zad)|refine CK.d0 zeF g ?_|with_reducible refine zac ?_|omega
theorem whZ (nm:List UInt8):AC Tryz.prog gl 84 [.ref 0 0,.pv (.str nm),.pv (.slice [])] [some (.cells [.row 1 0]),some (.row 1 [])] (.tup []) [some (.cells [.row 1 0]),some (.row 1 [])]:=by
 refine zax (fun _=>2) 5 zIo ?_
 repeat' first|refine Va zGq ?_|(with_reducible first|refine SB.c ?_ ?_<;>intro _|exact zad)|with_reducible refine zac ?_|omega
 (refine zay.mk [0,1] ?_ ?_<;>simp [kwr,zGq])
theorem wpZ:AC Tryz.prog gl 57 [.ref 0 0,zPg] [some (.cells [.snil])] (.tup []) [some (.cells [.row 1 0]),some (.row 1 [])]:=by
 have c1:=whZ [115,116,97,114,116]
 have c2:=whZ [109,101,115,115,97,103,101]
 have c3:=whZ [116,105,99,107]
 have c4:=whZ [105,110,112,117,116]
 refine zax (fun d=>if d=3 then 1 else 2) 8 zIc ?_
 repeat' first|refine Va zEN ?_|(with_reducible first|refine SB.c ?_ ?_<;>intro _|exact zad)|with_reducible refine zac ?_|omega
 (refine LW.weak (za0.nilRowC 0 0 3 1 rfl rfl rfl (by decide)) ?_;simp only [List.set_cons_zero,List.set_cons_succ])
 refine zaI (ι:=Unit) (fun i=>⟨(.ref 0 0::.junk::.junk::.ref 1 0::jl 3 (.pv (.slice [])::.pv (.int .i64 0)::.pv (.int .i64 0)::jl 49 [])),[some (.cells [.row 3 0]),some (.cells [.pv (.slice []),.pv (.slice []),.pv (.slice []),.pv (.slice []),.pv (.slice [])]),none,some (.row 1 []),none,none,none,none]⟩) (fun _=>0) () WFn ?_
 intro _
 repeat' first|refine Va (fA2 @kz zEN) ?_|(with_reducible first|refine SB.c ?_ ?_<;>intro _|exact zad)|refine CK.dx [0,3] [] zil c1 ?_|refine CK.dx [0,3] [] zil c2 ?_|refine CK.dx [0,3] [] zil c3 ?_|refine CK.dx [0,3] [] zil c4 ?_|with_reducible refine zac ?_|omega
 (refine zay.mk [0,3] ?_ ?_<;>simp [kwr,zEN])
theorem zIx:AC Tryz.prog gl 36 [zPg] [] (.tup [.pv (.str []),.pv (.int .i64 0)]) []:=by
 have ck:=ckZ
 have cp:=wpZ
 have hs0:zgc []=[]:=rfl
 refine zap (fun d=>if d=1 then 0 else 1) 3 zH4 ?_
 repeat' first|refine Va (fA3 @kz zHO hs0) ?_|(with_reducible first|refine SB.c ?_ ?_<;>intro _|exact zad)|refine CK.d0 zib ck ?_|refine CK.dx [1] [2] zvR cp ?_|with_reducible refine zac ?_|omega
theorem hdZ (nm:List UInt8):AC Tryz.prog gl 49 [.pv (.str nm),.pv (.slice [])] [] (.pv (.str [])) []:=by
 refine zap (fun _=>0) 1 zH9 ?_
 repeat' first|refine Va zHP ?_|(with_reducible first|refine SB.c ?_ ?_<;>intro _|exact zad)|with_reducible refine zac ?_|omega
theorem zF6:AC Tryz.prog gl 28 [zPg] [] (.tup [.pv (.str []),.pv (.int .i64 0)]) []:=by
 have ck:=zIw
 have c1:=hdZ [115,116,97,114,116]
 have c2:=hdZ [109,101,115,115,97,103,101]
 have c3:=hdZ [116,105,99,107]
 have c4:=hdZ [105,110,112,117,116]
 refine zap (fun d=>if d=1 then 0 else 1) 2 zH2 ?_
 repeat' first|refine Va zGp ?_|(with_reducible first|refine SB.c ?_ ?_<;>intro _|exact zad)|refine CK.d0 zic ck ?_|with_reducible refine zac ?_|omega
 refine zaI (ι:=Unit) (fun i=>⟨(.junk::.ref 0 0::jl 3 (.pv (.str [])::.pv (.int .i64 0)::jl 91 [])),[some (.cells [.pv (.slice []),.pv (.slice []),.pv (.slice []),.pv (.slice []),.pv (.slice [])]),none]⟩) (fun _=>0) () WFn ?_
 intro _
 repeat' first|refine Va zGp ?_|(with_reducible first|refine SB.c ?_ ?_<;>intro _|exact zad)|refine CK.d0 zid c1 ?_|refine CK.d0 zid c2 ?_|refine CK.d0 zid c3 ?_|refine CK.d0 zid c4 ?_|with_reducible refine zac ?_|omega
theorem ztz:zkk zq2=([],0):=by decide +kernel
theorem zq3 (p:PgD) (h:p=zq2):AC Tryz.prog gl 36 [pgA p] [] (.tup [.pv (.str (zkk p).1),.pv (.int .i64 (zkk p).2)]) []:=by
 subst h;rw [ztz];exact zIx
theorem zoz (p:PgD) (h:p=zq2):AC Tryz.prog gl 28 [pgA p] [] (.tup [.pv (.str (zkk p).1),.pv (.int .i64 (zkk p).2)]) []:=by
 subst h;rw [ztz];exact zF6
end Go.Proofs.YtfinhhblcdkpgaaGreatDoor
