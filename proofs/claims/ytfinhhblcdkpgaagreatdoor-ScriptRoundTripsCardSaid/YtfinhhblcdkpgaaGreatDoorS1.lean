/- A part of the walk (Tryz_S1): its theorems have no condition beyond what they state. -/
import Derived.Test.YtfinhhblcdkpgaaGreatDoorT0
import Derived.Test.YtfinhhblcdkpgaaGreatDoorLib3
import Derived.Test.YtfinhhblcdkpgaaGreatDoorLib2
set_option maxRecDepth 100000
set_option maxHeartbeats 64000000
set_option linter.unusedSimpArgs false
set_option linter.unusedVariables false
set_option linter.defProp false
namespace Go.Proofs.YtfinhhblcdkpgaaGreatDoor
open Go Go.Abs
abbrev exP (e:Ex):AVal:=.agg [.pv (.int .i64 e.op),.pv (.int .i64 e.value),.pv (.str e.name),.pv (.int .i64 e.slot),.pv (.int .i64 e.size),.pv (.slice (e.args.map zbr))]
theorem zg3 (n:Nat):∀ e:Ex,szE e≤n→n≤1000000000→AC Tryz.prog gl 164 [.pv (.ptr (zbr e))] [] (.pv (.int .i64 (ze8 e))) []:=by
 induction n with
 |zero=>intro e h;have:=zb1 e;omega
 |succ n ih=>
  intro e hd hn
  have hsz:=zjB e
  have hal:=zga e.args
  have hdz:=zkE e
  have he:=zay e
  rw [he]
  refine zaK (fun _=>0) 0 zEw ?_
  (repeat' (first|refine Va zxU ?_|(with_reducible first|refine SB.c ?_ ?_<;>intro _|exact zad)|with_reducible refine zac ?_|omega))
  refine zbx (ι:={k:Nat // k≤e.args.length}) (fun i=>⟨(.pv (.ptr [.int .i64 e.op,.int .i64 e.value,.str e.name,.int .i64 e.slot,.int .i64 e.size,.slice (e.args.map zbr)])::.junk::.pv (.int .i64 0)::.pv (.int .i64 (zdb 0 (e.args.take i.1)))::jl 5 (.pv (.int .i64 e.args.length)::.pv (.int .i64 i.1)::jl 14 [])),[]⟩) (fun i=>e.args.length - i.1) ⟨0,by omega⟩ (WFe (by simp [kwf,zdb]) (by simp [kwf,zdb])) ?_
  rintro ⟨k,hk⟩
  by_cases hlt:k<e.args.length
  ·have hlt':(k:Int)<e.args.length:=by omega
   have hget:=zaV zbr e.args k hlt
   have hmem:e.args[k] ∈ e.args:=List.getElem_mem hlt
   have hdx:=zdJ e.args e.args[k] hmem
   have hsn:zdb 0 (e.args.take (k+1))=mx (zdb 0 (e.args.take k)) (ze8 e.args[k]):=by
    rw [List.take_succ_eq_append_getElem hlt,zjC]
   generalize hx:e.args[k]=x at *
   have hlen:=zbj x
   have hw:=zbu k (by omega)
   have hc:=ih x (by omega) (by omega)
   (repeat' (first|refine Va (fA6 zxU hlt' hlt hget hlen hw) ?_|(with_reducible first|refine SB.c ?_ ?_<;>intro _|exact zad)|refine CK.d0 zh2 hc ?_|with_reducible refine zac ?_|omega))
   exact ⟨⟨k+1,by omega⟩,(WFe (by simp [kwf,hsn]) (by simp [kwf,hsn])),by show e.args.length - (k+1)<e.args.length - k;omega⟩
  ·have hlt':¬ (k:Int)<e.args.length:=by omega
   have hke:k=e.args.length:=by omega
   subst hke
   have hw2:IntKind.i64.wrap (1+zdb 0 e.args)=ze8 e:=by
    rw [zxY] at hdz ⊢
    have:=zkD 0 e.args
    exact zaB _ (by omega) (by omega)
   (repeat' (first|refine Va (fA4 zxU hlt' @List.take_length.{0} hw2) ?_|(with_reducible first|refine SB.c ?_ ?_<;>intro _|exact zad)|with_reducible refine zac ?_|omega))
theorem zmf (n:Nat) (hn:n≤1000000000) (ihl:∀ l:List Sm,zbh l≤n→AC Tryz.prog gl 91 [.pv (.slice (l.map zam))] [] (.pv (.int .i64 (za8 0 l))) []) (s:Sm) (hs:szS s≤n+1):AC Tryz.prog gl 125 [.pv (.ptr (zam s))] [] (.pv (.int .i64 (zjD s))) []:=by
 have hsz:=zgb s
 have h1:=zb1 s.place
 have h2:=zb1 s.value
 have hdz:=zrU s
 have hdp:=zu2 s
 have hds:=zrT s
 rw [zar]
 have hw:IntKind.i64.wrap (1+zc3 (zc3 (zc3 (ze8 s.place) (ze8 s.value)) (za8 0 s.body)) (za8 0 s.els))=zjD s:=by
  rw [←hds];exact zaB _ (by omega) (by omega)
 have cP:=zg3 n s.place (by omega) hn
 have cV:=zg3 n s.value (by omega) hn
 rw [zay] at cP cV
 have cB:=ihl s.body (by omega)
 have cE:=ihl s.els (by omega)
 refine zaK (fun _=>0) 0 zEl ?_
 (repeat' (first|refine Va (fA2 zD1 hw) ?_|(with_reducible first|refine SB.c ?_ ?_<;>intro _|exact zad)|refine CK.d0 zh2 cP ?_|refine CK.d0 zh2 cV ?_|refine CK.d0 ze7 cB ?_|refine CK.d0 ze7 cE ?_|with_reducible refine zac ?_|omega))
theorem zg4 (n:Nat) (hn:n≤1000000000) (l:List Sm) (hl:zbh l≤n) (ihs:∀ s:Sm,s ∈ l→AC Tryz.prog gl 125 [.pv (.ptr (zam s))] [] (.pv (.int .i64 (zjD s))) []):AC Tryz.prog gl 91 [.pv (.slice (l.map zam))] [] (.pv (.int .i64 (za8 0 l))) []:=by
 have hal:=zcU l
 refine zaK (fun _=>0) 0 zHa ?_
 (repeat' (first|refine Va zDZ ?_|(with_reducible first|refine SB.c ?_ ?_<;>intro _|exact zad)|with_reducible refine zac ?_|omega))
 refine zbx (ι:={k:Nat // k≤l.length}) (fun i=>⟨(.pv (.slice (l.map zam))::.junk::.pv (.int .i64 0)::.pv (.int .i64 (za8 0 (l.take i.1)))::.junk::.junk::.pv (.int .i64 l.length)::.pv (.int .i64 i.1)::jl 10 []),[]⟩) (fun i=>l.length - i.1) ⟨0,by omega⟩ (WFe (by simp [kwf,za8]) (by simp [kwf,za8])) ?_
 rintro ⟨k,hk⟩
 by_cases hlt:k<l.length
 ·have hlt':(k:Int)<l.length:=by omega
  have hget:=zaV zam l k hlt
  have hmem:l[k] ∈ l:=List.getElem_mem hlt
  have hsn:za8 0 (l.take (k+1))=mx (za8 0 (l.take k)) (zjD l[k]):=by
   rw [List.take_succ_eq_append_getElem hlt,zjE]
  have hc:=ihs l[k] hmem
  generalize hx:l[k]=x at *
  have hlen:=zeN x
  have hw:=zbu k (by omega)
  (repeat' (first|refine Va (fA6 zDZ hlt' hlt hget hlen hw) ?_|(with_reducible first|refine SB.c ?_ ?_<;>intro _|exact zad)|refine CK.d0 zrJ hc ?_|with_reducible refine zac ?_|omega))
  exact ⟨⟨k+1,by omega⟩,(WFe (by simp [kwf,hsn]) (by simp [kwf,hsn])),by show l.length - (k+1)<l.length - k;omega⟩
 ·have hlt':¬ (k:Int)<l.length:=by omega
  have hke:k=l.length:=by omega
  subst hke
  (repeat' (first|refine Va (fA3 zDZ hlt' @List.take_length.{0}) ?_|(with_reducible first|refine SB.c ?_ ?_<;>intro _|exact zad)|with_reducible refine zac ?_|omega))
theorem zp6 (n:Nat):n≤1000000000→(∀ l:List Sm,zbh l≤n→AC Tryz.prog gl 91 [.pv (.slice (l.map zam))] [] (.pv (.int .i64 (za8 0 l))) []):=by
 induction n with
 |zero=>intro hn l hl;exact zg4 0 hn l hl (fun s hs=>by have:=zbK l s hs;have:=zfE s;omega)
 |succ n ih=>
  intro hn l hl
  exact zg4 (n+1) hn l hl (fun s hs=>zmf n (by omega) (ih (by omega)) s (by have:=zbK l s hs;omega))
theorem zdO (l:List Sm) (hl:zbh l≤1000000000):AC Tryz.prog gl 91 [.pv (.slice (l.map zam))] [] (.pv (.int .i64 (za8 0 l))) []:=zp6 _ (Nat.le_refl _) l hl
theorem zoZ (p:PgD) (hp:szP p≤1000000000):AC Tryz.prog gl 64 [pgA p] [] (.pv (.int .i64 (znc p))) []:=by
 unfold szP at hp
 have c1:=zdO p.start (by omega)
 have c2:=zdO p.message (by omega)
 have c3:=zdO p.tick (by omega)
 have c4:=zdO p.input (by omega)
 unfold znc pgA
 refine zaK (fun _=>0) 1 zG5 ?_
 (repeat' (first|refine Va zGR ?_|(with_reducible first|refine SB.c ?_ ?_<;>intro _|exact zad)|refine CK.d0 ze7 c1 ?_|refine CK.d0 ze7 c2 ?_|refine CK.d0 ze7 c3 ?_|refine CK.d0 ze7 c4 ?_|with_reducible refine zac ?_|omega))
end Go.Proofs.YtfinhhblcdkpgaaGreatDoor
