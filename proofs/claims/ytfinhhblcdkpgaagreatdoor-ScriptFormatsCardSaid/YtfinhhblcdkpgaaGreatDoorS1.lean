/- A part of the walk (Tryz_S1): its theorems have no condition beyond what they state. -/
import Derived.Test.YtfinhhblcdkpgaaGreatDoorT0
import Derived.Test.YtfinhhblcdkpgaaGreatDoorLib3
import Derived.Test.YtfinhhblcdkpgaaGreatDoorLib2
set_option maxRecDepth 100000
set_option maxHeartbeats 64000000
set_option linter.unusedSimpArgs false
set_option linter.unusedVariables false
set_option linter.defProp false
namespace Go.Proofs.YtfinhhblcdkpgaaGreatDoor
open Go Go.Abs
abbrev exP (e:Ex):AVal:=.agg [.pv (.int .i64 e.op),.pv (.int .i64 e.value),.pv (.str e.name),.pv (.int .i64 e.slot),.pv (.int .i64 e.size),.pv (.slice (e.args.map zbg))]
theorem zgR (n:Nat):∀ e:Ex,szE e≤n→n≤1000000000→AC Tryz.prog gl 164 [.pv (.ptr (zbg e))] [] (.pv (.int .i64 (zfr e))) []:=by
 induction n with
 |zero=>intro e h;have:=zbo e;omega
 |succ n ih=>
  intro e hd hn
  have hsz:=zgM e
  have hal:=zeW e.args
  have hdz:=zh3 e
  have he:=zaq e
  rw [he]
  refine zam (fun _=>0) 0 zCV ?_
  (repeat' (first|refine Va zwz ?_|(with_reducible first|refine SB.c ?_ ?_<;>intro _|exact zac)|with_reducible refine zab ?_|omega))
  refine za6 (ι:={k:Nat // k≤e.args.length}) (fun i=>⟨(.pv (.ptr [.int .i64 e.op,.int .i64 e.value,.str e.name,.int .i64 e.slot,.int .i64 e.size,.slice (e.args.map zbg)])::.junk::.pv (.int .i64 0)::.pv (.int .i64 (zcO 0 (e.args.take i.1)))::jl 5 (.pv (.int .i64 e.args.length)::.pv (.int .i64 i.1)::jl 14 [])),[]⟩) (fun i=>e.args.length - i.1) ⟨0,by omega⟩ (WFe (by simp [kwf,zcO]) (by simp [kwf,zcO])) ?_
  rintro ⟨k,hk⟩
  by_cases hlt:k<e.args.length
  ·have hlt':(k:Int)<e.args.length:=by omega
   have hget:=zaN zbg e.args k hlt
   have hmem:e.args[k] ∈ e.args:=List.getElem_mem hlt
   have hdx:=zdx e.args e.args[k] hmem
   have hsn:zcO 0 (e.args.take (k+1))=mx (zcO 0 (e.args.take k)) (zfr e.args[k]):=by
    rw [List.take_succ_eq_append_getElem hlt,zgv]
   generalize hx:e.args[k]=x at *
   have hlen:=zbh x
   have hw:=zbc k (by omega)
   have hc:=ih x (by omega) (by omega)
   (repeat' (first|refine Va (fA6 zwz hlt' hlt hget hlen hw) ?_|(with_reducible first|refine SB.c ?_ ?_<;>intro _|exact zac)|refine CK.d0 zh0 hc ?_|with_reducible refine zab ?_|omega))
   exact ⟨⟨k+1,by omega⟩,(WFe (by simp [kwf,hsn]) (by simp [kwf,hsn])),by show e.args.length - (k+1)<e.args.length - k;omega⟩
  ·have hlt':¬ (k:Int)<e.args.length:=by omega
   have hke:k=e.args.length:=by omega
   subst hke
   have hw2:IntKind.i64.wrap (1+zcO 0 e.args)=zfr e:=by
    rw [zq2] at hdz ⊢
    have:=zhf 0 e.args
    exact zat _ (by omega) (by omega)
   (repeat' (first|refine Va (fA4 zwz hlt' @List.take_length.{0} hw2) ?_|(with_reducible first|refine SB.c ?_ ?_<;>intro _|exact zac)|with_reducible refine zab ?_|omega))
theorem zlM (n:Nat) (hn:n≤1000000000) (ihl:∀ l:List Sm,zbx l≤n→AC Tryz.prog gl 91 [.pv (.slice (l.map zah))] [] (.pv (.int .i64 (zbd 0 l))) []) (s:Sm) (hs:szS s≤n+1):AC Tryz.prog gl 125 [.pv (.ptr (zah s))] [] (.pv (.int .i64 (znM s))) []:=by
 have hsz:=zeA s
 have h1:=zbo s.place
 have h2:=zbo s.value
 have hdz:=zmw s
 have hdp:=znN s
 have hds:=zmv s
 rw [zar]
 have hw:IntKind.i64.wrap (1+zi8 (zi8 (zi8 (zfr s.place) (zfr s.value)) (zbd 0 s.body)) (zbd 0 s.els))=znM s:=by
  rw [←hds];exact zat _ (by omega) (by omega)
 have cP:=zgR n s.place (by omega) hn
 have cV:=zgR n s.value (by omega) hn
 rw [zaq] at cP cV
 have cB:=ihl s.body (by omega)
 have cE:=ihl s.els (by omega)
 refine zam (fun _=>0) 0 zCH ?_
 (repeat' (first|refine Va (fA2 zCj hw) ?_|(with_reducible first|refine SB.c ?_ ?_<;>intro _|exact zac)|refine CK.d0 zh0 cP ?_|refine CK.d0 zh0 cV ?_|refine CK.d0 zeU cB ?_|refine CK.d0 zeU cE ?_|with_reducible refine zab ?_|omega))
theorem zgS (n:Nat) (hn:n≤1000000000) (l:List Sm) (hl:zbx l≤n) (ihs:∀ s:Sm,s ∈ l→AC Tryz.prog gl 125 [.pv (.ptr (zah s))] [] (.pv (.int .i64 (znM s))) []):AC Tryz.prog gl 91 [.pv (.slice (l.map zah))] [] (.pv (.int .i64 (zbd 0 l))) []:=by
 have hal:=zbW l
 refine zam (fun _=>0) 0 zFs ?_
 (repeat' (first|refine Va zCf ?_|(with_reducible first|refine SB.c ?_ ?_<;>intro _|exact zac)|with_reducible refine zab ?_|omega))
 refine za6 (ι:={k:Nat // k≤l.length}) (fun i=>⟨(.pv (.slice (l.map zah))::.junk::.pv (.int .i64 0)::.pv (.int .i64 (zbd 0 (l.take i.1)))::.junk::.junk::.pv (.int .i64 l.length)::.pv (.int .i64 i.1)::jl 10 []),[]⟩) (fun i=>l.length - i.1) ⟨0,by omega⟩ (WFe (by simp [kwf,zbd]) (by simp [kwf,zbd])) ?_
 rintro ⟨k,hk⟩
 by_cases hlt:k<l.length
 ·have hlt':(k:Int)<l.length:=by omega
  have hget:=zaN zah l k hlt
  have hmem:l[k] ∈ l:=List.getElem_mem hlt
  have hsn:zbd 0 (l.take (k+1))=mx (zbd 0 (l.take k)) (znM l[k]):=by
   rw [List.take_succ_eq_append_getElem hlt,zgw]
  have hc:=ihs l[k] hmem
  generalize hx:l[k]=x at *
  have hlen:=zez x
  have hw:=zbc k (by omega)
  (repeat' (first|refine Va (fA6 zCf hlt' hlt hget hlen hw) ?_|(with_reducible first|refine SB.c ?_ ?_<;>intro _|exact zac)|refine CK.d0 zqR hc ?_|with_reducible refine zab ?_|omega))
  exact ⟨⟨k+1,by omega⟩,(WFe (by simp [kwf,hsn]) (by simp [kwf,hsn])),by show l.length - (k+1)<l.length - k;omega⟩
 ·have hlt':¬ (k:Int)<l.length:=by omega
  have hke:k=l.length:=by omega
  subst hke
  (repeat' (first|refine Va (fA3 zCf hlt' @List.take_length.{0}) ?_|(with_reducible first|refine SB.c ?_ ?_<;>intro _|exact zac)|with_reducible refine zab ?_|omega))
theorem zpg (n:Nat):n≤1000000000→(∀ l:List Sm,zbx l≤n→AC Tryz.prog gl 91 [.pv (.slice (l.map zah))] [] (.pv (.int .i64 (zbd 0 l))) []):=by
 induction n with
 |zero=>intro hn l hl;exact zgS 0 hn l hl (fun s hs=>by have:=za1 l s hs;have:=zcW s;omega)
 |succ n ih=>
  intro hn l hl
  exact zgS (n+1) hn l hl (fun s hs=>zlM n (by omega) (ih (by omega)) s (by have:=za1 l s hs;omega))
theorem zdy (l:List Sm) (hl:zbx l≤1000000000):AC Tryz.prog gl 91 [.pv (.slice (l.map zah))] [] (.pv (.int .i64 (zbd 0 l))) []:=zpg _ (Nat.le_refl _) l hl
theorem zog (p:PgD) (hp:szP p≤1000000000):AC Tryz.prog gl 64 [pgA p] [] (.pv (.int .i64 (zsc p))) []:=by
 unfold szP at hp
 have c1:=zdy p.start (by omega)
 have c2:=zdy p.message (by omega)
 have c3:=zdy p.tick (by omega)
 have c4:=zdy p.input (by omega)
 unfold zsc pgA
 refine zam (fun _=>0) 1 zFk ?_
 (repeat' (first|refine Va zE6 ?_|(with_reducible first|refine SB.c ?_ ?_<;>intro _|exact zac)|refine CK.d0 zeU c1 ?_|refine CK.d0 zeU c2 ?_|refine CK.d0 zeU c3 ?_|refine CK.d0 zeU c4 ?_|with_reducible refine zab ?_|omega))
theorem zrD (n:Nat):∀ e:Ex,szE e≤n→n≤1000000000→AC Tryz.prog gl 132 [exP e] [] (.pv (.int .i64 (zfr e))) []:=by
 induction n with
 |zero=>intro e h;have:=zbo e;omega
 |succ n ih=>
  intro e hd hn
  have hsz:=zgM e
  have hal:=zeW e.args
  have hdz:=zh3 e
  rw [zq2] at hdz ⊢
  have hde:=zhf 0 e.args
  unfold exP
  refine zam (fun _=>0) 1 zCO ?_
  (repeat' (first|refine Va zwy ?_|(with_reducible first|refine SB.c ?_ ?_<;>intro _|exact zac)|with_reducible refine zab ?_|omega))
  refine za6 (ι:={k:Nat // k≤e.args.length}) (fun i=>⟨(.junk::.ref 0 0::.junk::.pv (.int .i64 (zcO 0 (e.args.take i.1)))::.pv (.int .i64 i.1)::jl 17 []),[some (.cells [.pv (.int .i64 e.op),.pv (.int .i64 e.value),.pv (.str e.name),.pv (.int .i64 e.slot),.pv (.int .i64 e.size),.pv (.slice (e.args.map zbg))])]⟩) (fun i=>e.args.length - i.1) ⟨0,by omega⟩ (WFe (by simp [kwf,zcO]) (by simp [kwf,zcO])) ?_
  rintro ⟨k,hk⟩
  by_cases hlt:k<e.args.length
  ·have hlt':(k:Int)<e.args.length:=by omega
   have hget:=zaN zbg e.args k hlt
   have hdx:=zdx e.args e.args[k] (List.getElem_mem hlt)
   have hsn:zcO 0 (e.args.take (k+1))=mx (zcO 0 (e.args.take k)) (zfr e.args[k]):=by
    rw [List.take_succ_eq_append_getElem hlt,zgv]
   generalize hx:e.args[k]=x at *
   have hxe:=zaq x
   have hic:=ih x (by omega) (by omega)
   have hw:=zbc k (by omega)
   (repeat' (first|refine Va (fA6 zwy hlt' hlt hget hxe hw) ?_|(with_reducible first|refine SB.c ?_ ?_<;>intro _|exact zac)|refine CK.d0 zhY hic ?_|with_reducible refine zab ?_|omega))
   exact ⟨⟨k+1,by omega⟩,(WFe (by simp [kwf,hsn]) (by simp [kwf,hsn])),by show e.args.length - (k+1)<e.args.length - k;omega⟩
  ·have hlt':¬ (k:Int)<e.args.length:=by omega
   have hke:k=e.args.length:=by omega
   subst hke
   have hw:IntKind.i64.wrap (zcO 0 e.args+1)=1+zcO 0 e.args:=by rw [zat _ (by omega) (by omega)];omega
   (repeat' (first|refine Va (fA4 zwy hlt' @List.take_length.{0} hw) ?_|(with_reducible first|refine SB.c ?_ ?_<;>intro _|exact zac)|with_reducible refine zab ?_|omega))
theorem zlN (n:Nat) (hn:n≤1000000000) (l:List Sm) (hl:zbx l≤n) (ih:∀ s ∈ l,AC Tryz.prog gl 96 [.pv (.slice (s.body.map zah))] [] (.pv (.int .i64 (zbd 0 s.body))) []∧AC Tryz.prog gl 96 [.pv (.slice (s.els.map zah))] [] (.pv (.int .i64 (zbd 0 s.els))) []):AC Tryz.prog gl 96 [.pv (.slice (l.map zah))] [] (.pv (.int .i64 (zbd 0 l))) []:=by
 have hal:=zbW l
 refine zam (fun _=>0) 0 zFv ?_
 (repeat' (first|refine Va zCh ?_|(with_reducible first|refine SB.c ?_ ?_<;>intro _|exact zac)|with_reducible refine zab ?_|omega))
 refine za6 (ι:={k:Nat // k≤l.length}) (fun i=>⟨(.pv (.slice (l.map zah))::.junk::.junk::.pv (.int .i64 (zbd 0 (l.take i.1)))::.pv (.int .i64 i.1)::jl 35 []),[]⟩) (fun i=>l.length - i.1) ⟨0,by omega⟩ (WFe (by simp [kwf,zbd]) (by simp [kwf,zbd])) ?_
 rintro ⟨k,hk⟩
 by_cases hlt:k<l.length
 ·have hlt':(k:Int)<l.length:=by omega
  have hget:=zaN zah l k hlt
  have hmem:l[k] ∈ l:=List.getElem_mem hlt
  have hsn:zbd 0 (l.take (k+1))=mx (zbd 0 (l.take k)) (znM l[k]):=by
   rw [List.take_succ_eq_append_getElem hlt,zgw]
  obtain ⟨cB,cE⟩:=ih l[k] hmem
  have hsm:=za1 l l[k] hmem
  generalize hx:l[k]=x at *
  have hsz:=zeA x
  have hdz:=zmw x
  have hdp:=znN x
  have hds:=zmv x
  have cP:=zrD n x.place (by omega) hn
  have cV:=zrD n x.value (by omega) hn
  have hxe:=zar x
  have hw1:IntKind.i64.wrap (1+zi8 (zi8 (zi8 (zfr x.place) (zfr x.value)) (zbd 0 x.body)) (zbd 0 x.els))=znM x:=by
   rw [←hds];exact zat _ (by omega) (by omega)
  have hw:=zbc k (by omega)
  (repeat' (first|refine Va (fA7 zCh hlt' hlt hget hxe hw hw1) ?_|(with_reducible first|refine SB.c ?_ ?_<;>intro _|exact zac)|refine CK.d0 zhY cP ?_|refine CK.d0 zhY cV ?_|refine CK.d0 zeV cB ?_|refine CK.d0 zeV cE ?_|with_reducible refine zab ?_|omega))
  exact ⟨⟨k+1,by omega⟩,(WFe (by simp [kwf,hsn]) (by simp [kwf,hsn])),by show l.length - (k+1)<l.length - k;omega⟩
 ·have hlt':¬ (k:Int)<l.length:=by omega
  have hke:k=l.length:=by omega
  subst hke
  (repeat' (first|refine Va (fA3 zCh hlt' @List.take_length.{0}) ?_|(with_reducible first|refine SB.c ?_ ?_<;>intro _|exact zac)|with_reducible refine zab ?_|omega))
theorem zmR (n:Nat):n≤1000000000→(∀ l:List Sm,zbx l≤n→AC Tryz.prog gl 96 [.pv (.slice (l.map zah))] [] (.pv (.int .i64 (zbd 0 l))) []):=by
 induction n with
 |zero=>intro hn l hl;exact zlN 0 hn l hl (fun s hs=>by have:=za1 l s hs;have:=zcW s;omega)
 |succ n ih=>
  intro hn l hl
  exact zlN (n+1) hn l hl (fun s hs=>by have:=za1 l s hs;have:=zeA s;have:=zbo s.place;exact ⟨ih (by omega) _ (by omega),ih (by omega) _ (by omega)⟩)
theorem zgf (l:List Sm) (hl:zbx l≤1000000000):AC Tryz.prog gl 96 [.pv (.slice (l.map zah))] [] (.pv (.int .i64 (zbd 0 l))) []:=zmR _ (Nat.le_refl _) l hl
theorem zrE (p:PgD) (hp:szP p≤1000000000):AC Tryz.prog gl 70 [pgA p] [] (.pv (.int .i64 (zsc p))) []:=by
 unfold szP at hp
 have c1:=zgf p.start (by omega)
 have c2:=zgf p.message (by omega)
 have c3:=zgf p.tick (by omega)
 have c4:=zgf p.input (by omega)
 unfold zsc pgA
 refine zam (fun _=>0) 1 zFn ?_
 (repeat' (first|refine Va zE8 ?_|(with_reducible first|refine SB.c ?_ ?_<;>intro _|exact zac)|refine CK.d0 zeV c1 ?_|refine CK.d0 zeV c2 ?_|refine CK.d0 zeV c3 ?_|refine CK.d0 zeV c4 ?_|with_reducible refine zab ?_|omega))
end Go.Proofs.YtfinhhblcdkpgaaGreatDoor
