/- A part of the walk (Tryz_S1): its theorems have no condition beyond what they state. -/
import Derived.Test.YtfinhhblcdkpgaaGreatDoorT0
import Derived.Test.YtfinhhblcdkpgaaGreatDoorLib3
import Derived.Test.YtfinhhblcdkpgaaGreatDoorLib2
set_option maxRecDepth 100000
set_option maxHeartbeats 64000000
namespace Go.Proofs.YtfinhhblcdkpgaaGreatDoor
open Go Go.Abs
abbrev exP (e:Ex):AVal:=.agg [.pv (.int .i64 e.op),.pv (.int .i64 e.value),.pv (.str e.name),.pv (.int .i64 e.slot),.pv (.int .i64 e.size),.pv (.slice (e.args.map zbr))]
theorem zg3 (n:Nat):∀ e:Ex,szE e≤n→n≤1000000000→AC Tryz.prog gl 164 [.pv (.ptr (zbr e))] [] (.pv (.int .i64 (ze5 e))) []:=by
 induction n with
 |zero=>intro e h;have:=zb1 e;omega
 |succ n ih=>
  intro e hd hn
  have hsz:=zjA e
  have hal:=zf6 e.args
  have hdz:=zkC e
  have he:=zay e
  rw [he]
  refine zaK (fun _=>0) 0 zEi ?_
  (repeat' (first|refine V0 zxQ ?_|(with_reducible first|refine SB.c (fun _=>?_) fun _=>?_|exact zad)|with_reducible refine zac ?_|omega))
  refine zbw (ι:={k:Nat // k≤e.args.length}) (fun i=>⟨(.pv (.ptr [.int .i64 e.op,.int .i64 e.value,.str e.name,.int .i64 e.slot,.int .i64 e.size,.slice (e.args.map zbr)])::.junk::.pv (.int .i64 0)::.pv (.int .i64 (zda 0 (e.args.take i.1)))::jl 5 (.pv (.int .i64 e.args.length)::.pv (.int .i64 i.1)::jl 14 [])),[]⟩) (fun i=>e.args.length - i.1) ⟨0,by omega⟩ (WFe (by simp [kwf,zda]) (by simp [kwf,zda])) ?_
  rintro ⟨k,hk⟩
  by_cases hlt:k<e.args.length
  ·have hlt':(k:Int)<e.args.length:=by omega
   have hget:=zaV zbr e.args k hlt
   have hmem:e.args[k] ∈ e.args:=List.getElem_mem hlt
   have hdx:=zdI e.args e.args[k] hmem
   have hsn:zda 0 (e.args.take (k+1))=mx (zda 0 (e.args.take k)) (ze5 e.args[k]):=by
    rw [List.take_succ_eq_append_getElem hlt,zjB]
   generalize hx:e.args[k]=x at *
   have hlen:=zbj x
   have hw:=zbu k (by omega)
   have hc:=ih x (by omega) (by omega)
   (repeat' (first|refine V0 (And.intro zxQ <|And.intro @hlt' <|And.intro @hlt <|And.intro @hget <|And.intro @hlen @hw) ?_|(with_reducible first|refine SB.c (fun _=>?_) fun _=>?_|exact zad)|refine CK.d0 zh1 hc ?_|with_reducible refine zac ?_|omega))
   exact ⟨⟨k+1,by omega⟩,(WFe (by simp [kwf,hsn]) (by simp [kwf,hsn])),by show e.args.length - (k+1)<e.args.length - k;omega⟩
  ·have hlt':¬ (k:Int)<e.args.length:=by omega
   have hke:k=e.args.length:=by omega
   subst hke
   have hw2:IntKind.i64.wrap (1+zda 0 e.args)=ze5 e:=by
    rw [zxU] at hdz ⊢
    have:=zkB 0 e.args
    exact zaB _ (by omega) (by omega)
   (repeat' (first|refine V0 (And.intro zxQ <|And.intro @hlt' <|And.intro @List.take_length.{0} @hw2) ?_|(with_reducible first|refine SB.c (fun _=>?_) fun _=>?_|exact zad)|with_reducible refine zac ?_|omega))
theorem zmc (n:Nat) (hn:n≤1000000000) (ihl:∀ l:List Sm,zbh l≤n→AC Tryz.prog gl 91 [.pv (.slice (l.map zam))] [] (.pv (.int .i64 (za8 0 l))) []) (s:Sm) (hs:szS s≤n+1):AC Tryz.prog gl 125 [.pv (.ptr (zam s))] [] (.pv (.int .i64 (zjC s))) []:=by
 have hsz:=zf7 s
 have h1:=zb1 s.place
 have h2:=zb1 s.value
 have hdz:=zrQ s
 have hdp:=zuY s
 have hds:=zrP s
 rw [zar]
 have hw:IntKind.i64.wrap (1+zc3 (zc3 (zc3 (ze5 s.place) (ze5 s.value)) (za8 0 s.body)) (za8 0 s.els))=zjC s:=by
  rw [←hds];exact zaB _ (by omega) (by omega)
 have cP:=zg3 n s.place (by omega) hn
 have cV:=zg3 n s.value (by omega) hn
 rw [zay] at cP cV
 have cB:=ihl s.body (by omega)
 have cE:=ihl s.els (by omega)
 refine zaK (fun _=>0) 0 zD7 ?_
 (repeat' (first|refine V0 (And.intro zDN @hw) ?_|(with_reducible first|refine SB.c (fun _=>?_) fun _=>?_|exact zad)|refine CK.d0 zh1 cP ?_|refine CK.d0 zh1 cV ?_|refine CK.d0 ze4 cB ?_|refine CK.d0 ze4 cE ?_|with_reducible refine zac ?_|omega))
theorem zg4 (n:Nat) (hn:n≤1000000000) (l:List Sm) (hl:zbh l≤n) (ihs:∀ s:Sm,s ∈ l→AC Tryz.prog gl 125 [.pv (.ptr (zam s))] [] (.pv (.int .i64 (zjC s))) []):AC Tryz.prog gl 91 [.pv (.slice (l.map zam))] [] (.pv (.int .i64 (za8 0 l))) []:=by
 have hal:=zcT l
 refine zaK (fun _=>0) 0 zGW ?_
 (repeat' (first|refine V0 zDL ?_|(with_reducible first|refine SB.c (fun _=>?_) fun _=>?_|exact zad)|with_reducible refine zac ?_|omega))
 refine zbw (ι:={k:Nat // k≤l.length}) (fun i=>⟨(.pv (.slice (l.map zam))::.junk::.pv (.int .i64 0)::.pv (.int .i64 (za8 0 (l.take i.1)))::.junk::.junk::.pv (.int .i64 l.length)::.pv (.int .i64 i.1)::jl 10 []),[]⟩) (fun i=>l.length - i.1) ⟨0,by omega⟩ (WFe (by simp [kwf,za8]) (by simp [kwf,za8])) ?_
 rintro ⟨k,hk⟩
 by_cases hlt:k<l.length
 ·have hlt':(k:Int)<l.length:=by omega
  have hget:=zaV zam l k hlt
  have hmem:l[k] ∈ l:=List.getElem_mem hlt
  have hsn:za8 0 (l.take (k+1))=mx (za8 0 (l.take k)) (zjC l[k]):=by
   rw [List.take_succ_eq_append_getElem hlt,zjD]
  have hc:=ihs l[k] hmem
  generalize hx:l[k]=x at *
  have hlen:=zeI x
  have hw:=zbu k (by omega)
  (repeat' (first|refine V0 (And.intro zDL <|And.intro @hlt' <|And.intro @hlt <|And.intro @hget <|And.intro @hlen @hw) ?_|(with_reducible first|refine SB.c (fun _=>?_) fun _=>?_|exact zad)|refine CK.d0 zrF hc ?_|with_reducible refine zac ?_|omega))
  exact ⟨⟨k+1,by omega⟩,(WFe (by simp [kwf,hsn]) (by simp [kwf,hsn])),by show l.length - (k+1)<l.length - k;omega⟩
 ·have hlt':¬ (k:Int)<l.length:=by omega
  have hke:k=l.length:=by omega
  subst hke
  (repeat' (first|refine V0 (And.intro zDL <|And.intro @hlt' @List.take_length.{0}) ?_|(with_reducible first|refine SB.c (fun _=>?_) fun _=>?_|exact zad)|with_reducible refine zac ?_|omega))
theorem zp0 (n:Nat):n≤1000000000→(∀ l:List Sm,zbh l≤n→AC Tryz.prog gl 91 [.pv (.slice (l.map zam))] [] (.pv (.int .i64 (za8 0 l))) []):=by
 induction n with
 |zero=>intro hn l hl;exact zg4 0 hn l hl (fun s hs=>by have:=zbJ l s hs;have:=zfB s;omega)
 |succ n ih=>
  intro hn l hl
  exact zg4 (n+1) hn l hl (fun s hs=>zmc n (by omega) (ih (by omega)) s (by have:=zbJ l s hs;omega))
theorem zdN (l:List Sm) (hl:zbh l≤1000000000):AC Tryz.prog gl 91 [.pv (.slice (l.map zam))] [] (.pv (.int .i64 (za8 0 l))) []:=zp0 _ (Nat.le_refl _) l hl
theorem zoR (p:PgD) (hp:szP p≤1000000000):AC Tryz.prog gl 64 [pgA p] [] (.pv (.int .i64 (zm7 p))) []:=by
 unfold szP at hp
 have c1:=zdN p.start (by omega)
 have c2:=zdN p.message (by omega)
 have c3:=zdN p.tick (by omega)
 have c4:=zdN p.input (by omega)
 unfold zm7 pgA
 refine zaK (fun _=>0) 1 zGR ?_
 (repeat' (first|refine V0 zGD ?_|(with_reducible first|refine SB.c (fun _=>?_) fun _=>?_|exact zad)|refine CK.d0 ze4 c1 ?_|refine CK.d0 ze4 c2 ?_|refine CK.d0 ze4 c3 ?_|refine CK.d0 ze4 c4 ?_|with_reducible refine zac ?_|omega))
end Go.Proofs.YtfinhhblcdkpgaaGreatDoor
