/- The reading of a number. No condition. -/
import Derived.Test.YtfinhhblcdkpgaaGreatDoorN2
import Derived.Test.YtfinhhblcdkpgaaGreatDoorN12
import Derived.Test.YtfinhhblcdkpgaaGreatDoorLib3
set_option maxRecDepth 100000
set_option maxHeartbeats 64000000
set_option linter.unusedSimpArgs false
set_option linter.unusedVariables false
set_option linter.defProp false
namespace Go.Proofs.YtfinhhblcdkpgaaGreatDoor
open Go Go.Abs Go.RowKit
theorem zCw (n:Int) (h0:-9223372036854775808≤n) (h1:n≤9223372036854775807):AC Tryz.prog gl 122 [.pv (.int .i64 n),.pv (.int .i64 10)] [] (.pv (.str (Lib.itoa n))) []:=by
 refine AC.ofCalls (ps:=[.int .i64 n,.int .i64 10]) fun w M vs hl hr hs hg hx=>?_
 match vs,hl with
 |[v0,v1],_=>
  have e0:v0=_:=(hr 0 (by simp)).int_inv
  have e1:v1=_:=(hr 1 (by simp)).int_inv
  subst e0 e1
  refine (Tryz.strconv_FormatInt_10 n h0 h1 w (zxb w M hs hg hx)).mono ?_
  rintro e w' ⟨rfl,k,os,rfl⟩
  refine ⟨_,rfl,fun g D M'=>zyx _ _ _ _,?_⟩
  exact Lib.below_grow _ w (Nat.le_refl _) k os
theorem zCx (l:List UInt8) (hl:l.length≤100000) (v:Int) (h:Lib.parseIntB 64 l=.ok v):AC Tryz.prog gl 121 [.pv (.str l),.pv (.int .i64 10),.pv (.int .i64 64)] [] (.tup [.pv (.int .i64 v),.pv (.err true)]) []:=by
 refine AC.ofCalls (ps:=[.str l,.int .i64 10,.int .i64 64]) fun w M vs hvl hr hs hg hx=>?_
 match vs,hvl with
 |[v0,v1,v2],_=>
  have e0:v0=_:=(hr 0 (by simp)).str_inv
  have e1:v1=_:=(hr 1 (by simp)).int_inv
  have e2:v2=_:=(hr 2 (by simp)).int_inv
  subst e0 e1 e2
  refine (Tryz.strconv_ParseInt_10_at64_ok ⟨l.toArray⟩ (by simp [ByteArray.size];omega) v (by simpa using h) w).mono ?_
  rintro e w' ⟨rfl,hw⟩
  refine ⟨_,rfl,fun g D M'=>zkB (.pv (.int _ _)) (.pv .errn),?_⟩
  rcases hw with rfl|⟨t,rfl⟩
  ·exact Below.refl _ _
  ·exact Lib.bytesWorld_below w _ t
theorem zzd (l:List UInt8) (hl:l.length≤100000) (h:∀ v,Lib.parseIntB 64 l≠.ok v):AC Tryz.prog gl 121 [.pv (.str l),.pv (.int .i64 10),.pv (.int .i64 64)] [] (.tup [.junk,.pv (.err false)]) []:=by
 refine AC.ofCalls (ps:=[.str l,.int .i64 10,.int .i64 64]) fun w M vs hvl hr hs hg hx=>?_
 match vs,hvl with
 |[v0,v1,v2],_=>
  have e0:v0=_:=(hr 0 (by simp)).str_inv
  have e1:v1=_:=(hr 1 (by simp)).int_inv
  have e2:v2=_:=(hr 2 (by simp)).int_inv
  subst e0 e1 e2
  have key:∀ {u:Value},Rd M (.err false) u→∃ t v,u=.iface t v:=fun hru=>by
   rcases hru.err_inv with ⟨h,_⟩|⟨_,t,v,h⟩
   ·cases h
   ·exact ⟨t,v,h⟩
  cases hp:Lib.parseIntB 64 l with
  |ok v=>exact absurd hp (h v)
  |range=>
   obtain ⟨u,hu,hru⟩:=hg 11 [.err false] rfl 0 (by simp)
   refine (Tryz.strconv_ParseInt_10_at64_range ⟨l.toArray⟩ (by simp [ByteArray.size];omega) (by simpa using hp) u w (hs _ _ _ hu) (.inr (key hru))).mono ?_
   rintro e w' ⟨N,rfl,_,_,hb⟩
   exact ⟨_,rfl,fun g D M'=>zkB (.junk _) (.pv (.erri _ _)),hb⟩
  |_=>
   obtain ⟨u,hu,hru⟩:=hg 10 [.err false] rfl 0 (by simp)
   refine (Tryz.strconv_ParseInt_10_at64_syntax ⟨l.toArray⟩ (by simp [ByteArray.size];omega) (by simpa using hp) u w (hs _ _ _ hu) (.inr (key hru))).mono ?_
   rintro e w' ⟨N,rfl,_,_,hb⟩
   exact ⟨_,rfl,fun g D M'=>zkB (.junk _) (.pv (.erri _ _)),hb⟩
theorem zjw (w:List UInt8) (hl:w.length≤100000):AC Tryz.prog gl 88 [.pv (.str w)] [] (.tup [.pv (.int .i64 (zrz w).1),.pv (.bool (zrz w).2)]) []:=by
 unfold zrz
 split
 ·rename_i v hp
  obtain ⟨h0,h1⟩:=zpG w v hp
  have c1:=zCx w hl v hp
  have c2:=zCw v h0 h1
  have hw:IntKind.i64.wrap v=v:=zaS v h0 h1
  by_cases h:Lib.itoa v=w
  ·rw [if_pos h]
   rw [h] at c2
   refine zap (fun _=>0) 0 zFj ?_
   repeat' first|refine Va (fA2 zEQ hw) ?_|(with_reducible first|refine SB.c ?_ ?_<;>intro _|exact zad)|refine CK.d0 zfi c1 ?_|refine CK.d0 zmR c2 ?_|with_reducible refine zac ?_|omega
  ·rw [if_neg h]
   refine zap (fun _=>0) 0 zFj ?_
   have h':(Lib.itoa v==w)=false:=by simpa using h
   repeat' first|refine Va (fA4 zEQ hw h h') ?_|(with_reducible first|refine SB.c ?_ ?_<;>intro _|exact zad)|refine CK.d0 zfi c1 ?_|refine CK.d0 zmR c2 ?_|with_reducible refine zac ?_|omega
 ·rename_i hp
  have c1:=zzd w hl (fun v e=>hp v e)
  refine zap (fun _=>0) 0 zFj ?_
  repeat' first|refine Va zEQ ?_|(with_reducible first|refine SB.c ?_ ?_<;>intro _|exact zad)|refine CK.d0 zfi c1 ?_|with_reducible refine zac ?_|omega
theorem zwl (k:Int):AC Tryz.prog gl 14 [.pv (.int .i64 k)] [] (.pv (.str (wdF k))) []:=by
 by_cases h:k<1
 ·have e:wdF k=[]:=by unfold wdF;rw [if_pos (.inl h)]
  rw [e]
  refine zap (fun _=>0) 0 zFa ?_
  repeat' first|refine Va (fA2 zEH h) ?_|(with_reducible first|refine SB.c ?_ ?_<;>intro _|exact zad)|with_reducible refine zac ?_|omega
 ·by_cases h2:14<k
  ·have e:wdF k=[]:=by unfold wdF;rw [if_pos (.inr h2)]
   have h2':k > 14:=h2
   rw [e]
   refine zap (fun _=>0) 0 zFa ?_
   repeat' first|refine Va (fA4 zEH h h2 h2') ?_|(with_reducible first|refine SB.c ?_ ?_<;>intro _|exact zad)|with_reducible refine zac ?_|omega
  ·refine zeM (fun k=>AC Tryz.prog gl 14 [.pv (.int .i64 k)] [] (.pv (.str (wdF k))) []) ?_ k (by omega) (by omega)
   refine ⟨?_,?_,?_,?_,?_,?_,?_,?_,?_,?_,?_,?_,?_,?_⟩<;>(refine zap (fun _=>0) 0 zFa ?_;(repeat' (first|refine Va (fA5 zEH @wdF.eq_1 @zug.eq_1 @or_self @if_false.{0}) ?_|(with_reducible first|refine SB.c ?_ ?_<;>intro _|exact zad)|with_reducible refine zac ?_|omega)))
theorem zlW (k:Int):AC Tryz.prog gl 15 [.pv (.int .i64 k)] [] (.pv (.str (wdF k))) []:=by
 by_cases h:k<0
 ·have e:wdF k=[]:=by unfold wdF;rw [if_pos (by omega)]
  rw [e]
  refine zap (fun _=>0) 0 zDf ?_
  repeat' first|refine Va (fA2 zC7 h) ?_|(with_reducible first|refine SB.c ?_ ?_<;>intro _|exact zad)|with_reducible refine zac ?_|omega
 ·by_cases h2:15≤k
  ·have e:wdF k=[]:=by unfold wdF;rw [if_pos (by omega)]
   have h2':k≥15:=h2
   rw [e]
   refine zap (fun _=>0) 0 zDf ?_
   repeat' first|refine Va (fA4 zC7 h h2 h2') ?_|(with_reducible first|refine SB.c ?_ ?_<;>intro _|exact zad)|with_reducible refine zac ?_|omega
  ·by_cases h0:k=0
   ·subst h0
    refine zap (fun _=>0) 0 zDf ?_
    repeat' first|refine Va (fA5 zC7 @wdF.eq_1 @true_or @or_self @if_true.{0}) ?_|(with_reducible first|refine SB.c ?_ ?_<;>intro _|exact zad)|with_reducible refine zac ?_|omega
   ·refine zeM (fun k=>AC Tryz.prog gl 15 [.pv (.int .i64 k)] [] (.pv (.str (wdF k))) []) ?_ k (by omega) (by omega)
    refine ⟨?_,?_,?_,?_,?_,?_,?_,?_,?_,?_,?_,?_,?_,?_⟩<;>(refine zap (fun _=>0) 0 zDf ?_;(repeat' (first|refine Va (fA5 zC7 @wdF.eq_1 @zug.eq_1 @or_self @if_false.{0}) ?_|(with_reducible first|refine SB.c ?_ ?_<;>intro _|exact zad)|with_reducible refine zac ?_|omega)))
theorem zwm (P:Int→Prop) (h:P 1∧P 2∧P 3∧P 4∧P 5∧P 6∧P 7∧P 8) (k:Int) (h1:1≤k) (h2:k≤8):P k:=by
 obtain ⟨a1,a2,a3,a4,a5,a6,a7,a8⟩:=h
 have:k=1∨k=2∨k=3∨k=4∨k=5∨k=6∨k=7∨k=8:=by omega
 rcases this with rfl|rfl|rfl|rfl|rfl|rfl|rfl|rfl<;>assumption
theorem zjD (k:Int):AC Tryz.prog gl 26 [.pv (.int .i64 k)] [] (.pv (.str (prF k))) []:=by
 by_cases h:k<0
 ·have e:prF k=[]:=by unfold prF;rw [if_pos (by omega)]
  rw [e]
  refine zap (fun _=>0) 0 zDg ?_
  repeat' first|refine Va (fA2 zC8 h) ?_|(with_reducible first|refine SB.c ?_ ?_<;>intro _|exact zad)|with_reducible refine zac ?_|omega
 ·by_cases h2:9≤k
  ·have e:prF k=[]:=by unfold prF;rw [if_pos (by omega)]
   have h2':k≥9:=h2
   rw [e]
   refine zap (fun _=>0) 0 zDg ?_
   repeat' first|refine Va (fA4 zC8 h h2 h2') ?_|(with_reducible first|refine SB.c ?_ ?_<;>intro _|exact zad)|with_reducible refine zac ?_|omega
  ·by_cases h0:k=0
   ·subst h0
    refine zap (fun _=>0) 0 zDg ?_
    repeat' first|refine Va (fA5 zC8 @prF.eq_1 @true_or @or_self @if_true.{0}) ?_|(with_reducible first|refine SB.c ?_ ?_<;>intro _|exact zad)|with_reducible refine zac ?_|omega
   ·refine zwm (fun k=>AC Tryz.prog gl 26 [.pv (.int .i64 k)] [] (.pv (.str (prF k))) []) ?_ k (by omega) (by omega)
    refine ⟨?_,?_,?_,?_,?_,?_,?_,?_⟩<;>(refine zap (fun _=>0) 0 zDg ?_;(repeat' (first|refine Va (fA5 zC8 @prF.eq_1 @zlR.eq_1 @or_self @if_false.{0}) ?_|(with_reducible first|refine SB.c ?_ ?_<;>intro _|exact zad)|with_reducible refine zac ?_|omega)))
abbrev stO (x:StD):Option AObj:=some (.cells [.pv (.int .i64 x.kind),.pv (.int .i64 x.proc),.pv (.int .i64 x.place),.pv (.int .i64 x.value)])
theorem zch (k:Int):((k=1∨k=4∨k=5)∧shF k=1)∨((k=2∨k=3∨k=10)∧shF k=2)∨((k=6∨k=7∨k=8∨k=9∨k=12)∧shF k=3)∨(k≠1∧k≠2∧k≠3∧k≠4∧k≠5∧k≠6∧k≠7∧k≠8∧k≠9∧k≠10∧k≠12∧shF k=0):=by
 unfold shF
 by_cases h1:k=1∨k=4∨k=5
 ·exact .inl ⟨h1,if_pos h1⟩
 ·rw [if_neg h1]
  by_cases h2:k=2∨k=3∨k=10
  ·exact .inr (.inl ⟨h2,if_pos h2⟩)
  ·rw [if_neg h2]
   by_cases h3:k=6∨k=7∨k=8∨k=9∨k=12
   ·exact .inr (.inr (.inl ⟨h3,if_pos h3⟩))
   ·rw [if_neg h3]
    exact .inr (.inr (.inr ⟨by omega,by omega,by omega,by omega,by omega,by omega,by omega,by omega,by omega,by omega,by omega,rfl⟩))
theorem zkM (x:StD) (h:shF x.kind=1):AC Tryz.prog gl 58 [.ref 0 0] [stO x] (.csl 1 1 1) [stO x,some (.cells [.ref 0 2])]:=by
 rcases zch x.kind with ⟨h1,_⟩|⟨_,h2⟩|⟨_,h2⟩|⟨_,_,_,_,_,_,_,_,_,_,_,h2⟩<;>try (rw [h] at h2;cases h2)
 rcases h1 with h1|h1|h1 <;>
 ·refine zax (fun _=>1) 2 zDk ?_
  repeat' first|refine Va (fA2 zw2 h1) ?_|(with_reducible first|refine SB.c ?_ ?_<;>intro _|exact zad)|with_reducible refine zac ?_|omega
  (refine zay.mk [0,1] ?_ ?_<;>simp [kwr,zw2])
theorem zkN (x:StD) (h:shF x.kind=2):AC Tryz.prog gl 58 [.ref 0 0] [stO x] (.csl 1 2 1) [stO x,some (.cells [.ref 0 1,.ref 0 3])]:=by
 rcases zch x.kind with ⟨_,h2⟩|⟨h1,_⟩|⟨_,h2⟩|⟨_,_,_,_,_,_,_,_,_,_,_,h2⟩<;>try (rw [h] at h2;cases h2)
 rcases h1 with h1|h1|h1 <;>
 ·refine zax (fun _=>1) 2 zDk ?_
  repeat' first|refine Va (fA2 zw2 h1) ?_|(with_reducible first|refine SB.c ?_ ?_<;>intro _|exact zad)|with_reducible refine zac ?_|omega
  (refine zay.mk [0,1] ?_ ?_<;>simp [kwr,zw2])
theorem zkO (x:StD) (h:shF x.kind=3):AC Tryz.prog gl 58 [.ref 0 0] [stO x] (.csl 1 1 1) [stO x,some (.cells [.ref 0 1])]:=by
 rcases zch x.kind with ⟨_,h2⟩|⟨_,h2⟩|⟨h1,_⟩|⟨_,_,_,_,_,_,_,_,_,_,_,h2⟩<;>try (rw [h] at h2;cases h2)
 rcases h1 with h1|h1|h1|h1|h1 <;>
 ·refine zax (fun _=>1) 2 zDk ?_
  repeat' first|refine Va (fA2 zw2 h1) ?_|(with_reducible first|refine SB.c ?_ ?_<;>intro _|exact zad)|with_reducible refine zac ?_|omega
  (refine zay.mk [0,1] ?_ ?_<;>simp [kwr,zw2])
theorem zkP (x:StD) (h:shF x.kind=0):AC Tryz.prog gl 58 [.ref 0 0] [stO x] .snil [stO x]:=by
 rcases zch x.kind with ⟨_,h2⟩|⟨_,h2⟩|⟨_,h2⟩|⟨a1,a2,a3,a4,a5,a6,a7,a8,a9,a10,a11,_⟩<;>try (rw [h] at h2;cases h2)
 refine zax (fun _=>1) 2 zDk ?_
 repeat' first|refine Va (zkA zw2 a1 a2 a3 a4 a5 a6 a7 a8 a9 a10 a11) ?_|(with_reducible first|refine SB.c ?_ ?_<;>intro _|exact zad)|with_reducible refine zac ?_|omega
 (refine zay.mk [0] ?_ ?_<;>simp [kwr,zw2])
theorem zwo (s:List UInt8) (hs:s.length≤10000000):AC Tryz.prog gl 50 [.pv (.str s)] [] (.tup [.pv (.slice ((if zfr s then zaj 10 s else zb9 s).map ze0)),.pv (.bool (!zfr s))]) []:=by
 refine zap (fun _=>2) 3 zIa ?_
 repeat' first|refine Va zBY ?_|(with_reducible first|refine SB.c ?_ ?_<;>intro _|exact zad)|with_reducible refine zac ?_|omega
 (refine LW.weak (za0.nilRow 4 1 1 rfl rfl (by decide)) ?_;simp only [List.set_cons_zero,List.set_cons_succ])
 refine zaI (ι:=WI 10 s) (fun w=>⟨(.pv (.str s)::jl 3 (.row 1 w.acc.length::.pv (.int .i64 w.a)::.pv (.int .i64 w.i)::jl 30 [])),[none,some (.row 1 (w.acc.map ze0)),none]⟩) (fun w=>s.length - w.i) (WI.start 10 s) (WFe (by simp [kwf,WI.start_i,WI.start_a,WI.start_acc]) (by simp [kwf,WI.start_i,WI.start_a,WI.start_acc])) ?_
 rintro ⟨i,a,acc,ha,hi,no,hl,heq⟩
 have hrm:=zc8 (acc.length+1) 16 (by omega)
 by_cases hlt:i<s.length
 ·have hlt':(i:Int)<s.length:=by omega
  have hw:=zaQ i (by omega)
  have hb:=u8b (s.getD i 0) 10
  simp only [UInt8.reduceToNat,Int.cast_ofNat_Int] at hb
  by_cases hc:s.getD i 0=10
  ·have hb1:(s.getD i 0==10)=true:=by simpa using hc
   rw [hb1] at hb
   have hai:(a:Int)≤i:=by omega
   have hai2:(i:Int)≤s.length:=by omega
   have hcut:(s.take i).drop a=cut s a i:=rfl
   repeat' first|refine Va (zfA zBY hlt hlt' hw hb hai hai2 hcut hrm ha hi) ?_|(with_reducible first|refine SB.c ?_ ?_<;>intro _|exact zad)|with_reducible refine zac ?_|omega
   exact ⟨WI.push (WI.mk i a acc ha hi no hl heq) hlt hc,(WTe [0,2,1] (by simp [kwt,WI.push_i,WI.push_a,WI.push_acc,ze0]) (by simp [kwt,WI.push_i,WI.push_a,WI.push_acc,ze0])),by simp only [WI.push_i];omega⟩
  ·have hb1:(s.getD i 0==10)=false:=by simpa using hc
   rw [hb1] at hb
   repeat' first|refine Va (fA5 zBY hlt hlt' hw hb) ?_|(with_reducible first|refine SB.c ?_ ?_<;>intro _|exact zad)|with_reducible refine zac ?_|omega
   exact ⟨WI.skip (WI.mk i a acc ha hi no hl heq) hlt hc,(WFe (by simp [kwf,WI.skip_i,WI.skip_a,WI.skip_acc]) (by simp [kwf,WI.skip_i,WI.skip_a,WI.skip_acc])),by simp only [WI.skip_i];omega⟩
 ·have hlt':¬ (i:Int)<s.length:=by omega
  have hii:i=s.length:=by omega
  have hfin:zaj 10 s=acc++[cut s a s.length]:=WI.fin (WI.mk i a acc ha hi no hl heq) hii
  have hcl:(cut s a s.length).length=s.length - a:=by unfold cut;simp
  by_cases h:a<s.length
  ·have h':(a:Int)<s.length:=by omega
   have ht:zfr s=true:=by
    unfold zfr
    simp only [hfin,List.getLast_append,decide_eq_true_eq]
    simp
    intro e
    rw [e] at hcl
    simp at hcl
    omega
   have hcut:(s.take s.length).drop a=cut s a s.length:=rfl
   rw [ht,if_pos rfl,hfin]
   repeat' first|refine Va (zru zBY hlt' h h' hcut hrm @List.map_append.{0,0} @List.map_cons.{0,0} @List.map_nil.{0,0} @ze0.eq_1 @List.length_append.{0} @List.length_cons.{0} @List.length_nil.{0}) ?_|(with_reducible first|refine SB.c ?_ ?_<;>intro _|exact zad)|with_reducible refine zac ?_|omega
  ·have h':¬ (a:Int)<s.length:=by omega
   have ht:zfr s=false:=by
    unfold zfr
    simp only [hfin,List.getLast_append,decide_eq_false_iff_not]
    have:cut s a s.length=[]:=List.eq_nil_of_length_eq_zero (by omega)
    simp [this]
   have hln:zb9 s=acc:=by unfold zb9;rw [hfin];simp
   rw [ht,if_neg (by simp),hln]
   repeat' first|refine Va (fA4 zBY hlt' h h') ?_|(with_reducible first|refine SB.c ?_ ?_<;>intro _|exact zad)|with_reducible refine zac ?_|omega
def woI (s:List UInt8):Option (WI 32 s)→Nat
 |some w=>w.i
 |none=>s.length+1
def woA (s:List UInt8):Option (WI 32 s)→Nat
 |some w=>w.a
 |none=>s.length+1
def woL (s:List UInt8):Option (WI 32 s)→List (List UInt8)
 |some w=>w.acc
 |none=>zaj 32 s
theorem zh2 (s:List UInt8) (w:WI 32 s):woI s (some w)=w.i:=rfl
theorem zlX (s:List UInt8) (w:WI 32 s):woA s (some w)=w.a:=rfl
theorem zlY (s:List UInt8) (w:WI 32 s):woL s (some w)=w.acc:=rfl
theorem zwp (s:List UInt8):woI s none=s.length+1:=rfl
theorem zzj (s:List UInt8):woA s none=s.length+1:=rfl
theorem zzk (s:List UInt8):woL s none=zaj 32 s:=rfl
theorem zpL (s:List UInt8) (hs:s.length≤10000000):AC Tryz.prog gl 74 [.pv (.str s)] [] (.pv (.slice ((zaj 32 s).map ze0))) []:=by
 refine zap (fun _=>2) 3 zIj ?_
 repeat' first|refine Va zB0 ?_|(with_reducible first|refine SB.c ?_ ?_<;>intro _|exact zad)|with_reducible refine zac ?_|omega
 (refine LW.weak (za0.nilRow 3 1 1 rfl rfl (by decide)) ?_;simp only [List.set_cons_zero,List.set_cons_succ])
 refine zaI (ι:=Option (WI 32 s)) (fun w=>⟨(.pv (.str s)::.junk::.junk::.row 1 (woL s w).length::.pv (.int .i64 (woA s w))::.pv (.int .i64 (woI s w))::jl 26 []),[none,some (.row 1 ((woL s w).map ze0)),none]⟩) (fun w=>s.length+1 - woI s w) (some (WI.start 32 s)) (WFe (by simp [kwf,zh2,zlX,zlY,WI.start_i,WI.start_a,WI.start_acc]) (by simp [kwf,zh2,zlX,zlY,WI.start_i,WI.start_a,WI.start_acc])) ?_
 rintro (_|⟨i,a,acc,ha,hi,no,hl,heq⟩)
 ·have hlt':¬ (((s.length+1:Nat):Int)≤s.length):=by omega
  repeat' first|refine Va (fA5 zB0 hlt' @zwp @zzj @zzk) ?_|(with_reducible first|refine SB.c ?_ ?_<;>intro _|exact zad)|with_reducible refine zac ?_|omega
 ·have hrm:=zc8 (acc.length+1) 16 (by omega)
  have hw:=zaQ i (by omega)
  have hle':(i:Int)≤s.length:=by omega
  have hai:(a:Int)≤i:=by omega
  have hcut:(s.take i).drop a=cut s a i:=rfl
  have hlen:0≤s.length:=Nat.zero_le _
  by_cases hlt:i<s.length
  ·have hne:((i:Int)==s.length)=false:=by simp;omega
   have hb:=u8b (s.getD i 0) 32
   simp only [UInt8.reduceToNat,Int.cast_ofNat_Int] at hb
   by_cases hc:s.getD i 0=32
   ·have hb1:(s.getD i 0==32)=true:=by simpa using hc
    rw [hb1] at hb
    repeat' first|refine Va (zBC zB0 @zh2 @zlX @zlY hlt hle' hne hw hb hai hcut hrm ha hi) ?_|(with_reducible first|refine SB.c ?_ ?_<;>intro _|exact zad)|with_reducible refine zac ?_|omega
    exact ⟨some (WI.push (WI.mk i a acc ha hi no hl heq) hlt hc),(WTe [0,2,1] (by simp [kwt,zh2,zlX,zlY,WI.push_i,WI.push_a,WI.push_acc,ze0]) (by simp [kwt,zh2,zlX,zlY,WI.push_i,WI.push_a,WI.push_acc,ze0])),by simp only [zh2,WI.push_i];omega⟩
   ·have hb1:(s.getD i 0==32)=false:=by simpa using hc
    rw [hb1] at hb
    repeat' first|refine Va (fA9 zB0 @zh2 @zlX @zlY hlt hle' hne hw hb) ?_|(with_reducible first|refine SB.c ?_ ?_<;>intro _|exact zad)|with_reducible refine zac ?_|omega
    exact ⟨some (WI.skip (WI.mk i a acc ha hi no hl heq) hlt hc),(WFe (by simp [kwf,zh2,zlX,zlY,WI.skip_i,WI.skip_a,WI.skip_acc]) (by simp [kwf,zh2,zlX,zlY,WI.skip_i,WI.skip_a,WI.skip_acc])),by simp only [zh2,WI.skip_i];omega⟩
  ·have hii:i=s.length:=by omega
   have hfin:zaj 32 s=acc++[cut s a s.length]:=WI.fin (WI.mk i a acc ha hi no hl heq) hii
   subst hii
   repeat' first|refine Va (zkA zB0 @zh2 @zlX @zlY hlt hle' hw hai hcut hrm ha @beq_self_eq_true.{0}) ?_|(with_reducible first|refine SB.c ?_ ?_<;>intro _|exact zad)|with_reducible refine zac ?_|omega
   exact ⟨none,(WTe [0,2,1] (by simp [kwt,zwp,zzj,zzk,hfin,ze0]) (by simp [kwt,zwp,zzj,zzk,hfin,ze0])),by simp only [zh2,zwp];omega⟩
end Go.Proofs.YtfinhhblcdkpgaaGreatDoor
