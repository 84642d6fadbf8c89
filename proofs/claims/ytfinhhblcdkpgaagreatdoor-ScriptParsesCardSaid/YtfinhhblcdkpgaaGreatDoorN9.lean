/- A part of the walk (Tryz_S1): its theorems have no condition beyond what they state. -/
import Derived.Test.YtfinhhblcdkpgaaGreatDoorLib2
import Derived.Test.YtfinhhblcdkpgaaGreatDoorT0
import Derived.Test.YtfinhhblcdkpgaaGreatDoorLib3
import Derived.Test.YtfinhhblcdkpgaaGreatDoorN12
set_option maxRecDepth 100000
set_option maxHeartbeats 64000000
set_option linter.unusedSimpArgs false
set_option linter.unusedVariables false
namespace Go.Proofs.YtfinhhblcdkpgaaGreatDoor
open Go Go.Abs
abbrev exP (e:Ex):AVal:=.agg [.pv (.int .i64 e.op),.pv (.int .i64 e.value),.pv (.str e.name),.pv (.int .i64 e.slot),.pv (.int .i64 e.size),.pv (.slice (e.args.map zbq))]
theorem ziz (n:Nat):∀ e:Ex,szE e≤n→n≤1000000000→AC Tryz.prog gl 164 [.pv (.ptr (zbq e))] [] (.pv (.int .i64 (zgI e))) []:=by
 induction n with
 |zero=>intro e h;have:=zbw e;omega
 |succ n ih=>
  intro e hd hn
  have hsz:=zgv e
  have hal:=zdV e.args
  have hdz:=zjS e
  have he:=zaz e
  rw [he]
  refine zas (fun _=>0) 0 zHl ?_
  refine Wk1 zz6 ?_
  refine zaK (ι:={k:Nat // k≤e.args.length}) (fun i=>⟨(.pv (.ptr [.int .i64 e.op,.int .i64 e.value,.str e.name,.int .i64 e.slot,.int .i64 e.size,.slice (e.args.map zbq)])::.junk::.pv (.int .i64 0)::.pv (.int .i64 (zdF 0 (e.args.take i.1)))::jl 5 (.pv (.int .i64 e.args.length)::.pv (.int .i64 i.1)::jl 14 [])),[]⟩) (fun i=>e.args.length - i.1) ⟨0,by omega⟩ (WFe (by simp [kwf,zdF]) (by simp [kwf,zdF])) ?_
  rintro ⟨k,hk⟩
  by_cases hlt:k<e.args.length
  ·have hlt':(k:Int)<e.args.length:=by omega
   have hget:=zaE zbq e.args k hlt
   have hmem:e.args[k] ∈ e.args:=List.getElem_mem hlt
   have hdx:=zcP e.args e.args[k] hmem
   have hsn:zdF 0 (e.args.take (k+1))=mx (zdF 0 (e.args.take k)) (zgI e.args[k]):=by
    rw [List.take_succ_eq_append_getElem hlt,zh4]
   generalize hx:e.args[k]=x at *
   have hlen:=zdE x
   have hw:=zaP k (by omega)
   have hc:=ih x (by omega) (by omega)
   refine Wk1 (fA7 zz6 hlt' hlt hget hlen hw (CE.mk zjO hc)) ?_
   exact ⟨⟨k+1,by omega⟩,(WFe (by simp [kwf,hsn]) (by simp [kwf,hsn])),by show e.args.length - (k+1)<e.args.length - k;omega⟩
  ·have hlt':¬ (k:Int)<e.args.length:=by omega
   have hke:k=e.args.length:=by omega
   subst hke
   have hw2:IntKind.i64.wrap (1+zdF 0 e.args)=zgI e:=by
    rw [ztZ] at hdz ⊢
    have:=ziZ 0 e.args
    exact zay _ (by omega) (by omega)
   refine Wk0 (fA4 zz6 hlt' @List.take_length.{0} hw2)
theorem znR (n:Nat) (hn:n≤1000000000) (ihl:∀ l:List Sm,zbz l≤n→AC Tryz.prog gl 91 [.pv (.slice (l.map zah))] [] (.pv (.int .i64 (zbJ 0 l))) []) (s:Sm) (hs:szS s≤n+1):AC Tryz.prog gl 125 [.pv (.ptr (zah s))] [] (.pv (.int .i64 (zqd s))) []:=by
 have hsz:=zea s
 have h1:=zbw s.place
 have h2:=zbw s.value
 have hdz:=zoO s
 have hdp:=zqe s
 have hds:=zoN s
 rw [zag]
 have hw:IntKind.i64.wrap (1+zgV (zgV (zgV (zgI s.place) (zgI s.value)) (zbJ 0 s.body)) (zbJ 0 s.els))=zqd s:=by
  rw [←hds];exact zay _ (by omega) (by omega)
 have cP:=ziz n s.place (by omega) hn
 have cV:=ziz n s.value (by omega) hn
 rw [zaz] at cP cV
 have cB:=ihl s.body (by omega)
 have cE:=ihl s.els (by omega)
 refine zas (fun _=>0) 0 zG5 ?_
 refine Wk0 (fA6 zGA hw (CE.mk zjO cP) (CE.mk zjO cV) (CE.mk zf0 cB) (CE.mk zf0 cE))
theorem ziA (n:Nat) (hn:n≤1000000000) (l:List Sm) (hl:zbz l≤n) (ihs:∀ s:Sm,s ∈ l→AC Tryz.prog gl 125 [.pv (.ptr (zah s))] [] (.pv (.int .i64 (zqd s))) []):AC Tryz.prog gl 91 [.pv (.slice (l.map zah))] [] (.pv (.int .i64 (zbJ 0 l))) []:=by
 have hal:=zbO l
 refine zas (fun _=>0) 0 zJ3 ?_
 refine Wk1 zGv ?_
 refine zaK (ι:={k:Nat // k≤l.length}) (fun i=>⟨(.pv (.slice (l.map zah))::.junk::.pv (.int .i64 0)::.pv (.int .i64 (zbJ 0 (l.take i.1)))::.junk::.junk::.pv (.int .i64 l.length)::.pv (.int .i64 i.1)::jl 10 []),[]⟩) (fun i=>l.length - i.1) ⟨0,by omega⟩ (WFe (by simp [kwf,zbJ]) (by simp [kwf,zbJ])) ?_
 rintro ⟨k,hk⟩
 by_cases hlt:k<l.length
 ·have hlt':(k:Int)<l.length:=by omega
  have hget:=zaE zah l k hlt
  have hmem:l[k] ∈ l:=List.getElem_mem hlt
  have hsn:zbJ 0 (l.take (k+1))=mx (zbJ 0 (l.take k)) (zqd l[k]):=by
   rw [List.take_succ_eq_append_getElem hlt,zh5]
  have hc:=ihs l[k] hmem
  generalize hx:l[k]=x at *
  have hlen:=zir x
  have hw:=zaP k (by omega)
  refine Wk1 (fA7 zGv hlt' hlt hget hlen hw (CE.mk ztP hc)) ?_
  exact ⟨⟨k+1,by omega⟩,(WFe (by simp [kwf,hsn]) (by simp [kwf,hsn])),by show l.length - (k+1)<l.length - k;omega⟩
 ·have hlt':¬ (k:Int)<l.length:=by omega
  have hke:k=l.length:=by omega
  subst hke
  refine Wk0 (fA3 zGv hlt' @List.take_length.{0})
theorem zr4 (n:Nat):n≤1000000000→(∀ l:List Sm,zbz l≤n→AC Tryz.prog gl 91 [.pv (.slice (l.map zah))] [] (.pv (.int .i64 (zbJ 0 l))) []):=by
 induction n with
 |zero=>intro hn l hl;exact ziA 0 hn l hl (fun s hs=>by have:=zaV l s hs;have:=zcm s;omega)
 |succ n ih=>
  intro hn l hl
  exact ziA (n+1) hn l hl (fun s hs=>znR n (by omega) (ih (by omega)) s (by have:=zaV l s hs;omega))
theorem zew (l:List Sm) (hl:zbz l≤1000000000):AC Tryz.prog gl 91 [.pv (.slice (l.map zah))] [] (.pv (.int .i64 (zbJ 0 l))) []:=zr4 _ (Nat.le_refl _) l hl
theorem zqH (p:PgD) (hp:szP p≤1000000000):AC Tryz.prog gl 64 [pgA p] [] (.pv (.int .i64 (zt1 p))) []:=by
 unfold szP at hp
 have c1:=zew p.start (by omega)
 have c2:=zew p.message (by omega)
 have c3:=zew p.tick (by omega)
 have c4:=zew p.input (by omega)
 unfold zt1 pgA
 refine zas (fun _=>0) 1 zJQ ?_
 refine Wk0 (fA5 zJu (CE.mk zf0 c1) (CE.mk zf0 c2) (CE.mk zf0 c3) (CE.mk zf0 c4))
theorem zuL (n:Nat):∀ e:Ex,szE e≤n→n≤1000000000→AC Tryz.prog gl 132 [exP e] [] (.pv (.int .i64 (zgI e))) []:=by
 induction n with
 |zero=>intro e h;have:=zbw e;omega
 |succ n ih=>
  intro e hd hn
  have hsz:=zgv e
  have hal:=zdV e.args
  have hdz:=zjS e
  rw [ztZ] at hdz ⊢
  have hde:=ziZ 0 e.args
  unfold exP
  refine zas (fun _=>0) 1 zHc ?_
  refine Wk1 zz4 ?_
  refine zaK (ι:={k:Nat // k≤e.args.length}) (fun i=>⟨(.junk::.ref 0 0::.junk::.pv (.int .i64 (zdF 0 (e.args.take i.1)))::.pv (.int .i64 i.1)::jl 17 []),[some (.cells [.pv (.int .i64 e.op),.pv (.int .i64 e.value),.pv (.str e.name),.pv (.int .i64 e.slot),.pv (.int .i64 e.size),.pv (.slice (e.args.map zbq))])]⟩) (fun i=>e.args.length - i.1) ⟨0,by omega⟩ (WFe (by simp [kwf,zdF]) (by simp [kwf,zdF])) ?_
  rintro ⟨k,hk⟩
  by_cases hlt:k<e.args.length
  ·have hlt':(k:Int)<e.args.length:=by omega
   have hget:=zaE zbq e.args k hlt
   have hdx:=zcP e.args e.args[k] (List.getElem_mem hlt)
   have hsn:zdF 0 (e.args.take (k+1))=mx (zdF 0 (e.args.take k)) (zgI e.args[k]):=by
    rw [List.take_succ_eq_append_getElem hlt,zh4]
   generalize hx:e.args[k]=x at *
   have hxe:=zaz x
   have hic:=ih x (by omega) (by omega)
   have hw:=zaP k (by omega)
   refine Wk1 (fA7 zz4 hlt' hlt hget hxe hw (CE.mk zjK hic)) ?_
   exact ⟨⟨k+1,by omega⟩,(WFe (by simp [kwf,hsn]) (by simp [kwf,hsn])),by show e.args.length - (k+1)<e.args.length - k;omega⟩
  ·have hlt':¬ (k:Int)<e.args.length:=by omega
   have hke:k=e.args.length:=by omega
   subst hke
   have hw:IntKind.i64.wrap (zdF 0 e.args+1)=1+zdF 0 e.args:=by rw [zay _ (by omega) (by omega)];omega
   refine Wk0 (fA4 zz4 hlt' @List.take_length.{0} hw)
theorem znS (n:Nat) (hn:n≤1000000000) (l:List Sm) (hl:zbz l≤n) (ih:∀ s ∈ l,AC Tryz.prog gl 96 [.pv (.slice (s.body.map zah))] [] (.pv (.int .i64 (zbJ 0 s.body))) []∧AC Tryz.prog gl 96 [.pv (.slice (s.els.map zah))] [] (.pv (.int .i64 (zbJ 0 s.els))) []):AC Tryz.prog gl 96 [.pv (.slice (l.map zah))] [] (.pv (.int .i64 (zbJ 0 l))) []:=by
 have hal:=zbO l
 refine zas (fun _=>0) 0 zJ6 ?_
 refine Wk1 zGx ?_
 refine zaK (ι:={k:Nat // k≤l.length}) (fun i=>⟨(.pv (.slice (l.map zah))::.junk::.junk::.pv (.int .i64 (zbJ 0 (l.take i.1)))::.pv (.int .i64 i.1)::jl 35 []),[]⟩) (fun i=>l.length - i.1) ⟨0,by omega⟩ (WFe (by simp [kwf,zbJ]) (by simp [kwf,zbJ])) ?_
 rintro ⟨k,hk⟩
 by_cases hlt:k<l.length
 ·have hlt':(k:Int)<l.length:=by omega
  have hget:=zaE zah l k hlt
  have hmem:l[k] ∈ l:=List.getElem_mem hlt
  have hsn:zbJ 0 (l.take (k+1))=mx (zbJ 0 (l.take k)) (zqd l[k]):=by
   rw [List.take_succ_eq_append_getElem hlt,zh5]
  obtain ⟨cB,cE⟩:=ih l[k] hmem
  have hsm:=zaV l l[k] hmem
  generalize hx:l[k]=x at *
  have hsz:=zea x
  have hdz:=zoO x
  have hdp:=zqe x
  have hds:=zoN x
  have cP:=zuL n x.place (by omega) hn
  have cV:=zuL n x.value (by omega) hn
  have hxe:=zag x
  have hw1:IntKind.i64.wrap (1+zgV (zgV (zgV (zgI x.place) (zgI x.value)) (zbJ 0 x.body)) (zbJ 0 x.els))=zqd x:=by
   rw [←hds];exact zay _ (by omega) (by omega)
  have hw:=zaP k (by omega)
  refine Wk1 (zg7 zGx hlt' hlt hget hxe hw hw1 (CE.mk zjK cP) (CE.mk zjK cV) (CE.mk zf1 cB) (CE.mk zf1 cE)) ?_
  exact ⟨⟨k+1,by omega⟩,(WFe (by simp [kwf,hsn]) (by simp [kwf,hsn])),by show l.length - (k+1)<l.length - k;omega⟩
 ·have hlt':¬ (k:Int)<l.length:=by omega
  have hke:k=l.length:=by omega
  subst hke
  refine Wk0 (fA3 zGx hlt' @List.take_length.{0})
theorem zo8 (n:Nat):n≤1000000000→(∀ l:List Sm,zbz l≤n→AC Tryz.prog gl 96 [.pv (.slice (l.map zah))] [] (.pv (.int .i64 (zbJ 0 l))) []):=by
 induction n with
 |zero=>intro hn l hl;exact znS 0 hn l hl (fun s hs=>by have:=zaV l s hs;have:=zcm s;omega)
 |succ n ih=>
  intro hn l hl
  exact znS (n+1) hn l hl (fun s hs=>by have:=zaV l s hs;have:=zea s;have:=zbw s.place;exact ⟨ih (by omega) _ (by omega),ih (by omega) _ (by omega)⟩)
theorem zhH (l:List Sm) (hl:zbz l≤1000000000):AC Tryz.prog gl 96 [.pv (.slice (l.map zah))] [] (.pv (.int .i64 (zbJ 0 l))) []:=zo8 _ (Nat.le_refl _) l hl
theorem znT (p:PgD) (hp:szP p≤1000000000):AC Tryz.prog gl 70 [pgA p] [] (.pv (.int .i64 (zt1 p))) []:=by
 unfold szP at hp
 have c1:=zhH p.start (by omega)
 have c2:=zhH p.message (by omega)
 have c3:=zhH p.tick (by omega)
 have c4:=zhH p.input (by omega)
 unfold zt1 pgA
 refine zas (fun _=>0) 1 zJU ?_
 refine Wk0 (fA5 zJw (CE.mk zf1 c1) (CE.mk zf1 c2) (CE.mk zf1 c3) (CE.mk zf1 c4))
open Go Go.Abs Go.RowKit
theorem zyv:([32,118,97,114,32,97,114,114,97,121,32,111,110,32,115,116,97,114,116,32,109,101,115,115,97,103,101,32,116,105,99,107,32,105,110,112,117,116,32,105,102,32,101]:List UInt8).append [108,115,101,32,119,104,105,108,101,32,115,101,110,100,32,111,117,116,112,117,116,32,115,101,108,102,32,112,114,111,99,115,32,102,114,111,109,32,118,97,108,117,101,32]=zcH:=rfl
structure RbI (s:List UInt8) where
 k:Nat
 hk:k≤s.length
 hb:∀ c ∈ s.take k,c≠32
structure RwI (s:List UInt8) where
 k:Nat
 hk:k≤88
 hm:∀ i,i<k→i+(s.length+2)≤87→zAk s i=false
theorem zKa {c:UInt8} (h:c≠32):(((c.toNat:Nat):Int)==32)=false:=by
 have:¬ c.toNat=32:=fun e=>h (UInt8.toNat_inj.1 e)
 apply zsB;omega
theorem zKb {c:UInt8} (h:c=32):(((c.toNat:Nat):Int)==32)=true:=by subst h;rfl
theorem ziB (s:List UInt8) (hs:s.length≤281474976710656):AC Tryz.prog gl 98 [.pv (.str s)] [] (.pv (.bool (!(s.contains 32)&&zt0 s))) []:=by
 refine zas (fun _=>0) 0 zJ8 ?_
 by_cases h0:s=[]
 ·subst h0
  refine Wk1 zyl ?_
  rfl
 have hl0:0<s.length:=List.length_pos_iff.2 h0
 have h0':((s.length:Int)==0)=false:=zsB (by omega)
 refine Wk1 (fA2 zyl h0') ?_
 refine zaK (ι:=RbI s) (fun i=>⟨(.pv (.str s)::.junk::.pv (.bool false)::.pv (.int .i64 i.k)::jl 33 []),[]⟩) (fun i=>s.length - i.k) ⟨0,by omega,by simp⟩ WFn ?_
 rintro ⟨k,hk,hb⟩
 by_cases hlt:k<s.length
 ·have hlt':(k:Int)<s.length:=by omega
  have hge:s.getD k 0=s[k]:=by simp [List.getD,hlt]
  have hw:IntKind.i64.wrap ((k:Int)+1)=((k+1:Nat):Int):=by rw [zay _ (by omega) (by omega)];rfl
  have hmem:s[k] ∈ s:=List.getElem_mem hlt
  have htk:=List.take_succ_eq_append_getElem hlt
  by_cases hc32:s[k]=32
  ·have hcon:s.contains 32=true:=by simpa using (hc32 ▸ hmem)
   have heq:=zKb hc32
   rw [hcon]
   refine Wk0 (fA6 zyl hlt' hlt hge heq @Bool.false_and)
  ·have hne:=zKa hc32
   refine Wk1 (fA6 zyl hlt' hlt hge hne hw) ?_
   exact ⟨⟨k+1,by omega,by rw [htk];intro c hc;rcases List.mem_append.1 hc with hc|hc;exact hb c hc;rw [List.mem_singleton.1 hc];exact hc32⟩,WFn,by simp;omega⟩
 have hlt':¬ (k:Int)<s.length:=by omega
 rw [List.take_of_length_le (by omega)] at hb
 have hcon:s.contains 32=false:=by
  cases h:s.contains 32 with
  |false=>rfl
  |true=>exact absurd rfl (hb 32 (by simpa using h))
 rw [hcon,Bool.not_false,Bool.true_and]
 have ha2:s.length≤4611686018427387902:=by omega
 repeat' first|refine Va (fA2 zyl hlt') ?_|(with_reducible first|refine SB.c ?_ ?_<;>intro _|exact zak)|with_reducible refine zaj ?_|omega
 have hwl:(32::(s++[32])).length=s.length+2:=by simp
 refine zaK (ι:=RwI s) (fun i=>⟨(.junk::.junk::.pv (.bool false)::.junk::.pv (.str (32::(s++[32])))::.pv (.int .i64 i.k)::jl 31 []),[]⟩) (fun i=>88 - i.k) ⟨0,by omega,by intro i hi;omega⟩ WFn ?_
 rintro ⟨k,hk,hm⟩
 generalize hW:(32::(s++[32]):List UInt8)=W at *
 have hw1:IntKind.i64.wrap ((k:Int)+(W.length:Int))=((k+(s.length+2):Nat):Int):=by rw [hwl,zay _ (by omega) (by omega)];omega
 by_cases hle:k+(s.length+2)≤87
 ·have hle':((k+(s.length+2):Nat):Int)≤87:=by omega
  have hkk:(k:Int)≤((k+(s.length+2):Nat):Int):=by omega
  have hw:IntKind.i64.wrap ((k:Int)+1)=((k+1:Nat):Int):=by rw [zay _ (by omega) (by omega)];rfl
  have hcast:((87:Nat):Int)=87:=rfl
  have hhit:((zcH.take (k+(s.length+2))).drop k==W)=zAk s k:=by rw [←hW];rfl
  cases hh:zAk s k
  ·rw [hh] at hhit
   refine Wk1 (fA9 zyl hw1 hle' hkk @zyv @zf2 hcast hhit hw) ?_
   exact ⟨⟨k+1,by omega,fun i hi hi2=>by
    by_cases hik:i<k
    ·exact hm i hik hi2
    ·have:i=k:=by omega
     subst this;exact hh⟩,WFn,by simp;omega⟩
  ·rw [hh] at hhit
   have hr:=zxg h0 hb hle hh
   rw [hr]
   refine Wk0 (fA8 zyl hw1 hle' hkk @zyv @zf2 hcast hhit)
 ·have hle':¬ ((k+(s.length+2):Nat):Int)≤87:=by omega
  have hr:=zuc (s:=s) (fun i hi=>hm i (by omega) hi)
  rw [hr]
  refine Wk0 (fA3 zyl hw1 hle')
theorem zo9 (s:List UInt8):AC Tryz.prog gl 128 [.pv (.str s)] [] (.pv (.bool (zt0 s))) []:=by
 refine zas (fun _=>0) 0 zG8 ?_
 repeat' first|refine Va zGC ?_|(with_reducible first|refine SB.c ?_ ?_<;>intro _|exact zak)|with_reducible refine zaj ?_|omega
 all_goals grind [zt0]
theorem zi8 (s:List UInt8):AC Tryz.prog gl 92 [.pv (.str s)] [] (.pv (.bool (zdG s))) []:=by
 refine zas (fun _=>0) 0 zJ4 ?_
 by_cases h0:s=[]
 ·subst h0
  refine Wk1 zGw ?_
  simp [zdG]
 have h0':(s==[])=false:=by simpa using h0
 have hlen:0<s.length:=List.length_pos_iff.2 h0
 by_cases h16:(s.length:Int) > 16
 ·rw [zgJ s (by omega)]
  refine Wk0 (fA3 zGw h0' h16)
 ·have cW:=zo2 s 0 (by omega) (by omega)
  have cR:=zo9 s
  have hlen':(0:Int)<s.length:=by omega
  have hv:zdG s=(zdt (s.getD 0 0).toNat&&((((zbW isW s 0:Nat):Int)==(s.length:Int))&&!zt0 s)):=by
   unfold zdG
   rw [h0',decide_eq_false h16]
   simp [zt2]
  rw [hv]
  repeat' first|refine Va (fA5 zGw h0' h16 hlen hlen') ?_|(with_reducible first|refine SB.c ?_ ?_<;>intro _|exact zak)|refine CK.d0 zd8 (zee _) ?_|refine CK.d0 zfy cW ?_|refine CK.d0 ztQ cR ?_|with_reducible refine zaj ?_|omega
  all_goals grind
theorem zfK (s:List UInt8):AC Tryz.prog gl 71 [.pv (.str s)] [] (.pv (.bool (zdG s))) []:=by
 have hall:=zud s
 refine zas (fun _=>0) 0 zJV ?_
 by_cases h0:s=[]
 ·subst h0
  refine Wk1 zz3 ?_
  rfl
 have hl0:0<s.length:=List.length_pos_iff.2 h0
 have h0':((s.length:Int)==0)=false:=zsB (by omega)
 by_cases h1:(s.length:Int) > 16
 ·rw [zgJ s (by omega)]
  refine Wk0 (fA3 zz3 h0' h1)
 have hs0:(s==[])=false:=by simpa using h0
 have hv:zdG s=(zdt (s.getD 0 0).toNat&&(s.all isW&&!zt0 s)):=by simp [zdG,hs0,h1,hall]
 cases h2:zdt (s.getD 0 0).toNat
 ·rw [hv,h2,Bool.false_and]
  repeat' first|refine Va (fA5 zz3 h0' h1 hl0 h2) ?_|(with_reducible first|refine SB.c ?_ ?_<;>intro _|exact zak)|refine CK.d0 zdb (zb3 _) ?_|with_reducible refine zaj ?_|omega
 rw [hv,h2,Bool.true_and]
 cases h3:(!(s.contains 32)&&zt0 s)
 rotate_left
 ·have h4:zt0 s=true:=by simp at h3;exact h3.2
  rw [h4,Bool.not_true,Bool.and_false]
  repeat' first|refine Va (fA6 zz3 h0' h1 hl0 h2 h3) ?_|(with_reducible first|refine SB.c ?_ ?_<;>intro _|exact zak)|refine CK.d0 zdb (zb3 _) ?_|refine CK.d0 zqc (ziB s (by omega)) ?_|with_reducible refine zaj ?_|omega
 have hfin:(s.all isW&&!zt0 s)=s.all isW:=by
  cases h5:s.all isW with
  |false=>rfl
  |true=>
   have h6:s.contains 32=false:=by
    cases h7:s.contains 32 with
    |false=>rfl
    |true=>
     have:=List.all_eq_true.1 h5 32 (by simpa using h7)
     exact absurd this (by decide)
   rw [h6] at h3
   simpa using h3
 rw [hfin]
 repeat' first|refine Va (fA6 zz3 h0' h1 hl0 h2 h3) ?_|(with_reducible first|refine SB.c ?_ ?_<;>intro _|exact zak)|refine CK.d0 zdb (zb3 _) ?_|refine CK.d0 zqc (ziB s (by omega)) ?_|with_reducible refine zaj ?_|omega
 refine zaK (ι:={k:Nat // k≤s.length∧s.all isW=(s.drop k).all isW}) (fun i=>⟨(.pv (.str s)::.junk::.pv (.bool false)::.pv (.int .i64 i.1)::jl 36 []),[]⟩) (fun i=>s.length - i.1) ⟨0,by omega,by simp⟩ WFn ?_
 rintro ⟨k,hk,hka⟩
 by_cases hlt:k<s.length
 ·have hlt':(k:Int)<s.length:=by omega
  have hge:s.getD k 0=s[k]:=by simp [List.getD,hlt]
  have hw:IntKind.i64.wrap ((k:Int)+1)=((k+1:Nat):Int):=by rw [zay _ (by omega) (by omega)];rfl
  rw [List.drop_eq_getElem_cons hlt,List.all_cons] at hka
  have hisW:isW s[k]=(zdt s[k].toNat || zdc s[k].toNat):=rfl
  rw [hisW] at hka
  generalize s[k]=c at *
  cases h5:zdt c.toNat<;>cases h6:zdc c.toNat
  all_goals (repeat' (first|refine Va (fA7 zz3 hlt' hlt hge h5 h6 hw) ?_|(with_reducible first|refine SB.c ?_ ?_<;>intro _|exact zak)|refine CK.d0 zdb (zb3 _) ?_|refine CK.d0 zer (zdJ _) ?_|with_reducible refine zaj ?_|omega))
  ·rw [h5,h6,Bool.or_self,Bool.false_and] at hka
   rw [hka]
  all_goals exact ⟨⟨k+1,by omega,by rw [hka,h5,h6];simp⟩,WFn,by simp;omega⟩
 ·have hlt':¬ (k:Int)<s.length:=by omega
  rw [List.drop_eq_nil_of_le (by omega),List.all_nil] at hka
  refine Wk0 (fA3 zz3 hlt' hka)
end Go.Proofs.YtfinhhblcdkpgaaGreatDoor
