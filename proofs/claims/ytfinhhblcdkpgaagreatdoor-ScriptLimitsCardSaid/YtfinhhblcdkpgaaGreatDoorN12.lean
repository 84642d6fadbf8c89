/- A part of the walk (Tryz_N6): its theorems have no condition beyond what they state. -/
import Derived.Test.YtfinhhblcdkpgaaGreatDoorN5
import Derived.Test.YtfinhhblcdkpgaaGreatDoorLib3
import Derived.Lib.AppendIntMem
set_option maxRecDepth 100000
set_option maxHeartbeats 64000000
set_option linter.unusedSimpArgs false
set_option linter.unusedVariables false
set_option linter.defProp false
namespace Go.Proofs.YtfinhhblcdkpgaaGreatDoor
open Go Go.Abs Go.RowKit
theorem zzb (s:List UInt8) (a:Nat) (hs:s.length≤4096) (ha:a<s.length):AC Tryz.prog gl 104 [.pv (.str s),.pv (.int .i64 a)] [] (rT (zcp s a)) []:=by
 have ha':(a:Int)<s.length:=by omega
 have hw:=zaQ a (by omega)
 have e1:zdf ((s.getD a 0).toNat:Int)=isL (s.getD a 0):=rfl
 have e2:zcU ((s.getD a 0).toNat:Int)=isD (s.getD a 0):=rfl
 refine zap (fun _=>0) 1 zFp ?_
 by_cases hl:isL (s.getD a 0)=true
 ·have hW:isW (s.getD a 0)=true:=by simp [isW];exact .inl hl
  have hr0:zbM isW s a=zbM isW s (a+1):=by rw [zcf isW s a ha,if_pos hW]
  repeat' first|refine Va (fA6 zmM ha ha' e1 hl hw) ?_|(with_reducible first|refine SB.c ?_ ?_<;>intro _|exact zad)|refine CK.d0 zcT (zbQ _) ?_|with_reducible refine zac ?_|omega
  refine zaI (ι:={k:Nat // a<k∧k≤s.length∧zbM isW s k=zbM isW s a}) (fun i=>⟨(.pv (.str s)::.pv (.int .i64 a)::.junk::.junk::.ref 0 0::jl 3 (.pv (.int .i64 i.1)::jl 121 [])),[some (.cells [.pv (.int .i64 0),.pv (.str []),.pv (.int .i64 0),.pv (.int .i64 0)])]⟩) (fun i=>s.length - i.1) ⟨a+1,by omega,by omega,hr0.symm⟩ WFn ?_
  rintro ⟨k,hk1,hk,heq⟩
  have hst:=zcf isW s k
  have hen:=zgW isW s k
  have hwk:k<s.length→IntKind.i64.wrap ((k:Int)+1)=((k+1:Nat):Int):=fun h=>zaQ k (by omega)
  have hsub:IntKind.i64.wrap ((k:Int) - a)=k - a:=zaS _ (by omega) (by omega)
  have hcut:((s.take k).drop a)=cut s a k:=rfl
  have ho:zcp s a=if zbM isW s a - a > 16 then (tk0,(0:Int),(5:Int)) else ((⟨1,cut s a (zbM isW s a),0,(a:Int)⟩:TkD),((zbM isW s a:Nat):Int),(0:Int)):=by unfold zcp;rw [if_pos hl]
  repeat' first|refine Va (fA3 zmM hsub hcut) ?_|(with_reducible first|refine SB.c ?_ ?_<;>intro _|exact zad)|refine CK.d0 zcT (zbQ _) ?_|refine CK.d0 zec (zdw _) ?_|with_reducible refine zac ?_|omega
  ·rename_i hc
   obtain ⟨hlt,h2,h3⟩:=zgZ isW s k hc
   exact ⟨⟨k+1,by omega,by omega,by rw [←heq,h2]⟩,(WFe (by simp [kwf,hwk hlt]) (by simp [kwf,hwk hlt])),by simp;omega⟩
  ·rename_i hc hg
   have hke:=zeg isW s k hc
   have hg':zbM isW s a - a > 16:=by omega
   rw [ho,if_pos hg']
   simp [tk0]
  ·rename_i hc hg
   have hke:=zeg isW s k hc
   have hra:zbM isW s a=k:=by omega
   have hg':¬ zbM isW s a - a > 16:=by omega
   rw [ho,if_neg hg',hra]
   simp
 ·have hl':isL (s.getD a 0)=false:=by simpa using hl
  by_cases hd:isD (s.getD a 0)=true
  ·have ho:zcp s a=znJ s a:=by unfold zcp;rw [if_neg hl,if_pos hd]
   rw [ho]
   have h48:((((s.getD a 0).toNat:Nat):Int) != 48)=(s.getD a 0 != 48):=congrArg (!·) (u8b (s.getD a 0) 48)
   have hlen2:=zjo s a ha
   by_cases hc0:s.getD a 0=48
   ·have hne:((((s.getD a 0).toNat:Nat):Int) != 48)=false:=by rw [h48,hc0];rfl
    have hke:za7 s a=a+1:=by unfold za7;rw [if_pos hc0]
    have hdig:∀ c ∈ cut s a (a+1),isD c=true:=by rw [zeH s a a ha (Nat.le_refl _),ziq];simpa using hd
    rw [hke] at hlen2
    have cN:=zkK (cut s a (a+1)) hdig (by rw [zhw s a _ hlen2.2];omega)
    have hcut:((s.take (a+1)).drop a)=cut s a (a+1):=rfl
    repeat' first|refine Va (zj4 zmM ha ha' e1 hl' e2 hd hne hw hcut) ?_|(with_reducible first|refine SB.c ?_ ?_<;>intro _|exact zad)|refine CK.d0 zcT (zbQ _) ?_|refine CK.d0 zec (zdw _) ?_|refine CK.d0 zmT cN ?_|with_reducible refine zac ?_|omega
    ·rename_i hc
     obtain ⟨_,_,h3⟩:=zgZ isW s _ hc
     have hg:zbM isW s (za7 s a) > za7 s a:=by rw [hke];exact h3
     simp [znJ,hg,tk0]
    ·rename_i hc hv
     have h3:=zeg isW s _ hc
     have hg:¬ zbM isW s (za7 s a) > za7 s a:=by rw [hke];omega
     have hv':¬ zba (cut s a (za7 s a))<9223372036854775808:=by rw [hke];simpa using hv
     simp only [znJ,if_neg hg,if_neg hv',tk0]
     simp
    ·rename_i hc hv
     have h3:=zeg isW s _ hc
     have hg:¬ zbM isW s (za7 s a) > za7 s a:=by rw [hke];omega
     have hv2:zba (cut s a (za7 s a))<9223372036854775808:=by rw [hke];simpa using hv
     simp only [znJ,if_neg hg,if_pos hv2]
     rw [hke] at hv2 ⊢
     simp [hv2]
   ·have hne:((((s.getD a 0).toNat:Nat):Int) != 48)=true:=by rw [h48];simpa using hc0
    repeat' first|refine Va (fA9 zmM ha ha' e1 hl' e2 hd hne hw) ?_|(with_reducible first|refine SB.c ?_ ?_<;>intro _|exact zad)|refine CK.d0 zcT (zbQ _) ?_|refine CK.d0 zec (zdw _) ?_|with_reducible refine zac ?_|omega
    refine zaI (ι:={k:Nat // a<k∧k≤s.length∧zbM isD s k=zbM isD s (a+1)∧∀ c ∈ cut s a k,isD c=true}) (fun i=>⟨(.pv (.str s)::.pv (.int .i64 a)::.junk::.junk::.ref 0 0::jl 3 (.pv (.int .i64 i.1)::jl 121 [])),[some (.cells [.pv (.int .i64 0),.pv (.str []),.pv (.int .i64 0),.pv (.int .i64 0)])]⟩) (fun i=>s.length - i.1) ⟨a+1,by omega,by omega,rfl,by rw [zeH s a a ha (Nat.le_refl _),ziq];simpa using hd⟩ WFn ?_
    rintro ⟨k,hk1,hk,heq,hdig⟩
    have hwk:k<s.length→IntKind.i64.wrap ((k:Int)+1)=((k+1:Nat):Int):=fun h=>zaQ k (by omega)
    have hcut:((s.take k).drop a)=cut s a k:=rfl
    have cN:=zkK (cut s a k) hdig (by rw [zhw s a _ hk];omega)
    by_cases hx:(decide ((k:Int)<s.length)&&isD (s.getD k 0))=true
    ·obtain ⟨hlt,h2,h3⟩:=zgZ isD s k hx
     have hlt':(k:Int)<s.length:=by omega
     rw [Bool.and_eq_true] at hx
     have e3:zcU ((s.getD k 0).toNat:Int)=true:=hx.2
     repeat' first|refine Va (fA5 zmM hlt hlt' e3 (hwk hlt)) ?_|(with_reducible first|refine SB.c ?_ ?_<;>intro _|exact zad)|refine CK.d0 zec (zdw _) ?_|with_reducible refine zac ?_|omega
     exact ⟨⟨k+1,by omega,by omega,by rw [←heq,h2],fun c hcm=>by
      rw [zeH s a k hlt (by omega),List.mem_append,List.mem_singleton] at hcm
      rcases hcm with hcm|rfl
      ·exact hdig c hcm
      ·exact hx.2⟩,WFn,by simp;omega⟩
    ·have hx':(decide ((k:Int)<s.length)&&zcU ((s.getD k 0).toNat:Int))=false:=(Bool.not_eq_true _).mp hx
     have hke:za7 s a=k:=by unfold za7;rw [if_neg hc0,←heq];exact zeg isD s k hx'
     repeat' first|refine Va (fA3 zmM hx' hcut) ?_|(with_reducible first|refine SB.c ?_ ?_<;>intro _|exact zad)|refine CK.d0 zec (zdw _) ?_|refine CK.d0 zcT (zbQ _) ?_|refine CK.d0 zmT cN ?_|with_reducible refine zac ?_|omega
     ·rename_i hc
      obtain ⟨_,_,h3⟩:=zgZ isW s _ hc
      have hg:zbM isW s (za7 s a) > za7 s a:=by rw [hke];exact h3
      simp [znJ,hg,tk0]
     ·rename_i hc hv
      have h3:=zeg isW s _ hc
      have hg:¬ zbM isW s (za7 s a) > za7 s a:=by rw [hke];omega
      have hv':¬ zba (cut s a (za7 s a))<9223372036854775808:=by rw [hke];simpa using hv
      simp only [znJ,if_neg hg,if_neg hv',tk0]
      simp
     ·rename_i hc hv
      have h3:=zeg isW s _ hc
      have hg:¬ zbM isW s (za7 s a) > za7 s a:=by rw [hke];omega
      have hv2:zba (cut s a (za7 s a))<9223372036854775808:=by rw [hke];simpa using hv
      simp only [znJ,if_neg hg,if_pos hv2]
      rw [hke] at hv2 ⊢
      simp [hv2]
  ·have hd':isD (s.getD a 0)=false:=by simpa using hd
   have hsg:=zvY (s.getD a 0) (zcX s a)
   have cS:=zqS (s.getD a 0)
   have hcut1:((s.take (a+1)).drop a)=cut s a (a+1):=rfl
   have hcut2:((s.take (a+1+1)).drop a)=cut s a (a+2):=rfl
   have hw2:a+1<s.length→IntKind.i64.wrap (((a+1:Nat):Int)+1)=((a+1+1:Nat):Int):=fun h=>zaQ (a+1) (by omega)
   have ho:zcp s a=if zct (s.getD a 0).toNat (zcX s a)=0 then (tk0,(0:Int),(1:Int)) else ((⟨3,cut s a (a+(zct (s.getD a 0).toNat (zcX s a)).toNat),0,(a:Int)⟩:TkD),(a:Int)+zct (s.getD a 0).toNat (zcX s a),(0:Int)):=by unfold zcp;rw [if_neg hl,if_neg hd]
   by_cases h1:a+1<s.length
   ·have h1':((a+1:Nat):Int)<s.length:=by omega
    have hnb:zcX s a=((s.getD (a+1) 0).toNat:Int):=by unfold zcX;rw [if_pos h1]
    rw [hnb] at hsg ho
    generalize hdb:zy2 ((s.getD a 0).toNat:Int) ((s.getD (a+1) 0).toNat:Int)=b at *
    have cD:=zqR ((s.getD a 0).toNat:Int) ((s.getD (a+1) 0).toNat:Int)
    rw [hdb] at cD
    generalize zoi.contains (s.getD a 0)=c at *
    rw [hsg] at ho
    rw [ho]
    cases b<;>cases c
    all_goals
     repeat' first|refine Va (zru zmM ha ha' e1 hl' e2 hd' hw h1 h1' (hw2 h1) hcut1 hcut2) ?_|(with_reducible first|refine SB.c ?_ ?_<;>intro _|exact zad)|refine CK.d0 zcT (zbQ _) ?_|refine CK.d0 zec (zdw _) ?_|refine CK.d0 zsK cD ?_|refine CK.d0 zmU cS ?_|with_reducible refine zac ?_|omega
     try simp [tk0]
   ·have h1':¬ ((a+1:Nat):Int)<s.length:=by omega
    have hnb:zcX s a=0:=by unfold zcX;rw [if_neg h1]
    rw [hnb] at hsg ho
    have hdb:zy2 ((s.getD a 0).toNat:Int) 0=false:=by simp [zy2]
    rw [hdb] at hsg
    generalize zoi.contains (s.getD a 0)=c at *
    rw [hsg] at ho
    rw [ho]
    cases c
    all_goals
     repeat' first|refine Va (zj4 zmM ha ha' e1 hl' e2 hd' hw h1' hcut1) ?_|(with_reducible first|refine SB.c ?_ ?_<;>intro _|exact zad)|refine CK.d0 zcT (zbQ _) ?_|refine CK.d0 zec (zdw _) ?_|refine CK.d0 zmU cS ?_|with_reducible refine zac ?_|omega
     try simp [tk0]
theorem zwb (s:List UInt8):AC Tryz.prog gl 76 [.pv (.str s)] [] (rS (zgX s)) []:=by
 refine zap (fun d=>if d=7 then 0 else 2) 3 zIk ?_
 by_cases hbig:s.length > 4096
 ·have hbig':(s.length:Int) > 4096:=by omega
  have hsc:zgX s=([],0,5):=by unfold zgX;rw [if_pos hbig]
  rw [hsc]
  repeat' first|refine Va (fA2 zw4 hbig') ?_|(with_reducible first|refine SB.c ?_ ?_<;>intro _|exact zad)|with_reducible refine zac ?_|omega
 have hbig':¬ (s.length:Int) > 4096:=by omega
 have hsc:zgX s=zcL s (s.length+1) 0 []:=by unfold zgX;rw [if_neg hbig]
 rw [hsc]
 repeat' first|refine Va (fA2 zw4 hbig') ?_|(with_reducible first|refine SB.c ?_ ?_<;>intro _|exact zad)|with_reducible refine zac ?_|omega
 (refine LW.weak (za0.nilRow 5 1 4 rfl rfl (by decide)) ?_;simp only [List.set_cons_zero,List.set_cons_succ])
 refine zaI (ι:=SI s) (fun i=>⟨(.pv (.str s)::jl 4 (.row 1 i.acc.length::.pv (.int .i64 i.k)::jl 51 [])),[none,some (.row 4 (i.acc.map zfk)),none]⟩) (fun i=>s.length - i.k) (SI.start s) (WFe (by simp [kwf,SI.start_k,SI.start_acc]) (by simp [kwf,SI.start_k,SI.start_acc])) ?_
 rintro ⟨k,acc,f,hk,hf,ha,heq⟩
 by_cases hlt:k<s.length
 ·have hlt':(k:Int)<s.length:=by omega
  have hw:=zaQ k (by omega)
  have cB:=ztg (s.getD k 0)
  by_cases hb:isB (s.getD k 0)=true
  ·rw [hb] at cB
   repeat' first|refine Va (fA4 zw4 hlt hlt' hw) ?_|(with_reducible first|refine SB.c ?_ ?_<;>intro _|exact zad)|refine CK.d0 zgN cB ?_|with_reducible refine zac ?_|omega
   exact ⟨SI.blank (SI.mk k acc f hk hf ha heq) hlt hb,(WFe (by simp [kwf,SI.blank_k,SI.blank_acc]) (by simp [kwf,SI.blank_k,SI.blank_acc])),by simp only [SI.blank_k];omega⟩
  ·rw [(Bool.not_eq_true _).mp hb] at cB
   by_cases hh:s.getD k 0=35
   ·have hg:k<zbM zbL s k∧zbM zbL s k≤s.length:=zjs (SI.mk k acc f hk hf ha heq) hlt hh
    have h35:((((s.getD k 0).toNat:Nat):Int)==35)=true:=by rw [hh];rfl
    repeat' first|refine Va (fA4 zw4 hlt hlt' h35) ?_|(with_reducible first|refine SB.c ?_ ?_<;>intro _|exact zad)|refine CK.d0 zgN cB ?_|with_reducible refine zac ?_|omega
    refine zaI (ι:={j:Nat // k≤j∧j≤s.length∧zbM zbL s j=zbM zbL s k}) (fun i=>⟨(.pv (.str s)::jl 4 (.row 1 acc.length::.pv (.int .i64 i.1)::jl 51 [])),[none,some (.row 4 (acc.map zfk)),none]⟩) (fun i=>s.length - i.1) ⟨k,by omega,by omega,rfl⟩ WFn ?_
    rintro ⟨j,hj1,hj,hjeq⟩
    have hwj:j<s.length→IntKind.i64.wrap ((j:Int)+1)=((j+1:Nat):Int):=fun h=>zaQ j (by omega)
    have hn10:((((s.getD j 0).toNat:Nat):Int) != 10)=zbL (s.getD j 0):=congrArg (!·) (u8b (s.getD j 0) 10)
    repeat' first|refine Va (fA2 zw4 hn10) ?_|(with_reducible first|refine SB.c ?_ ?_<;>intro _|exact zad)|with_reducible refine zac ?_|omega
    ·rename_i hc
     obtain ⟨h1,h2,h3⟩:=zgZ zbL s j hc
     exact ⟨⟨j+1,by omega,by omega,by rw [←hjeq,h2]⟩,(WFe (by simp [kwf,hwj h1]) (by simp [kwf,hwj h1])),by simp;omega⟩
    ·rename_i hc
     have hke:=zeg zbL s j hc
     have hjk:zbM zbL s k=j:=by omega
     exact ⟨SI.hsh (SI.mk k acc f hk hf ha heq) hlt hh,(WFe (by simp [kwf,SI.hsh_k,SI.hsh_acc,hjk]) (by simp [kwf,SI.hsh_k,SI.hsh_acc,hjk])),by simp only [SI.hsh_k];omega⟩
   ·have m5:=u8f hh
    simp only [UInt8.reduceToNat,Int.cast_ofNat_Int] at m5
    have cO:=zzb s k (by omega) hlt
    by_cases h0:(zcp s k).2.2=0
    ·have hg:k<(zcp s k).2.1.toNat∧(zcp s k).2.1.toNat≤s.length∧(zcp s k).2.1=(((zcp s k).2.1.toNat:Nat):Int):=zm9 (SI.mk k acc f hk hf ha heq) hlt h0
     have hrm:=zc8 (acc.length+1) 40 (by omega)
     have h0':((zcp s k).2.2 != 0)=false:=by simpa using h0
     repeat' first|refine Va (fA6 zw4 hlt hlt' m5 h0' hrm) ?_|(with_reducible first|refine SB.c ?_ ?_<;>intro _|exact zad)|refine CK.d0 zgN cB ?_|refine CK.d0 zmQ cO ?_|with_reducible refine zac ?_|omega
     exact ⟨SI.tok (SI.mk k acc f hk hf ha heq) hlt hb hh h0,(WTe [0,2,1] (by simp [kwt,SI.tok_k,SI.tok_acc,zfk,←hg.2.2]) (by simp [kwt,SI.tok_k,SI.tok_acc,zfk,←hg.2.2])),by simp only [SI.tok_k];omega⟩
    ·have h0':((zcp s k).2.2 != 0)=true:=by simpa using h0
     have hbad:zcL s (s.length+1) 0 []=([],(k:Int),(zcp s k).2.2):=SI.bad (SI.mk k acc f hk hf ha heq) hlt hb hh h0
     rw [hbad]
     repeat' first|refine Va (fA5 zw4 hlt hlt' m5 h0') ?_|(with_reducible first|refine SB.c ?_ ?_<;>intro _|exact zad)|refine CK.d0 zgN cB ?_|refine CK.d0 zmQ cO ?_|with_reducible refine zac ?_|omega
 ·have hlt':¬ (k:Int)<s.length:=by omega
  have hfin:zcL s (s.length+1) 0 []=(acc,0,0):=SI.fin (SI.mk k acc f hk hf ha heq) hlt
  rw [hfin]
  repeat' first|refine Va (fA2 zw4 hlt') ?_|(with_reducible first|refine SB.c ?_ ?_<;>intro _|exact zad)|with_reducible refine zac ?_|omega
  all_goals simp
structure DcI (n:Nat) where
 m:Nat
 f:Nat
 acc:List UInt8
 hm:m<10 ^ f
 hf:f≤20
 hl:acc.length+f≤20
 hb:m≤9223372036854775807
 eq:dg f m++acc=dg 20 n
theorem zqT (n:Int) (h1:n≤9223372036854775807):AC Tryz.prog gl 47 [.pv (.int .i64 n)] [] (.pv (.str (zeV n))) []:=by
 refine zap (fun _=>0) 0 zH8 ?_
 by_cases h0:n≤0
 ·have hd:zeV n=[48]:=by unfold zeV;rw [if_pos h0]
  rw [hd]
  repeat' first|refine Va (fA2 zDd h0) ?_|(with_reducible first|refine SB.c ?_ ?_<;>intro _|exact zad)|with_reducible refine zac ?_|omega
 have hd:zeV n=dg 20 n.toNat:=by unfold zeV;rw [if_neg h0]
 rw [hd]
 repeat' first|refine Va (fA2 zDd h0) ?_|(with_reducible first|refine SB.c ?_ ?_<;>intro _|exact zad)|with_reducible refine zac ?_|omega
 refine zaI (ι:=DcI n.toNat) (fun i=>⟨(.pv (.int .i64 i.m)::.junk::.junk::.pv (.str i.acc)::jl 15 []),[]⟩) (fun i=>i.m) ⟨n.toNat,20,[],by omega,by omega,by simp,by omega,by simp⟩ (WFe (by simp [kwf,show ((n.toNat:Nat):Int)=n by omega]) (by simp [kwf,show ((n.toNat:Nat):Int)=n by omega])) ?_
 rintro ⟨m,f,acc,hm,hf,hl,hb,heq⟩
 by_cases hz:m=0
 ·subst hz
  rw [zdA,List.nil_append] at heq
  repeat' first|refine Va zDd ?_|(with_reducible first|refine SB.c ?_ ?_<;>intro _|exact zad)|with_reducible refine zac ?_|omega
  all_goals exact heq
 ·have hp:(m:Int) > 0:=by omega
  have e1:(m:Int).tmod 10=((m % 10:Nat):Int):=by rw [Int.tmod_eq_emod_of_nonneg (by omega)];omega
  have e2:(m:Int).tdiv 10=((m / 10:Nat):Int):=by rw [Int.tdiv_eq_ediv_of_nonneg (by omega)];omega
  have hr:m % 10<10:=Nat.mod_lt _ (by omega)
  have e3:IntKind.i64.wrap (48+((m % 10:Nat):Int))=((48+m % 10:Nat):Int):=by rw [zaS _ (by omega) (by omega)];omega
  have e4:IntKind.u8.wrap ((48+m % 10:Nat):Int)=((48+m % 10:Nat):Int):=IntWalk.u8_in _ ⟨by omega,by omega⟩
  have e5:IntKind.i64.wrap ((m / 10:Nat):Int)=((m / 10:Nat):Int):=zaS _ (by omega) (by omega)
  have e6:zgc [((48+m % 10:Nat):Int)]=[UInt8.ofNat (48+m % 10)]:=rfl
  obtain ⟨f',rfl⟩:∃ f',f=f'+1:=by
   cases f with
   |zero=>exact absurd (by simpa using hm) hz
   |succ f'=>exact ⟨f',rfl⟩
  rw [zel _ _ hz,List.append_assoc] at heq
  repeat' first|refine Va (fA8 zDd hp e1 e2 e3 e4 e5 e6) ?_|(with_reducible first|refine SB.c ?_ ?_<;>intro _|exact zad)|with_reducible refine zac ?_|omega
  exact ⟨⟨m / 10,f',UInt8.ofNat (48+m % 10)::acc,by rw [Nat.pow_succ] at hm;omega,by omega,by simp;omega,by omega,heq⟩,WFn,by simp;omega⟩
theorem zxb (w:World) (M:Mem) (hs:∀ b i u,M b i=some u→w.cell? ⟨b,i,none⟩=some u) (hg:GOK ⟨fun _=>none,gl,fun _=>0,0⟩ M)
  (hx : ∀ b cs, gl b = some cs → cs ≠ [] → ∃ vals T l, w.heap[b]? = some (.cells vals T l) ∧ vals.size = cs.length) : Lib.TabIs Tryz.prog w "internal/strconv.uint64pow10" .u64 Lib.pow10Tab := by
 obtain ⟨cs,hcs,hce⟩:∃ cs,gl 4=some cs∧cs=Lib.pow10Tab.map fun z=>PVal.int .u64 z:=⟨_,rfl,by kernel_rfl⟩
 have hlen:cs.length=Lib.pow10Tab.length:=by rw [hce];simp
 obtain ⟨vals,T,l,hh,hsz⟩:=hx 4 cs hcs (by rw [hce];decide +kernel)
 have hgn : Tryz.prog.globalNamed "internal/strconv.uint64pow10" = some 4 := by kernel_rfl
 unfold Lib.TabIs World.var?
 rw [hgn]
 simp only [Option.bind_some,hh,Option.some.injEq]
 apply Array.ext
 ·rw [hsz,hlen];simp
 ·intro i h1 h2
  have hi:i<cs.length:=by omega
  obtain ⟨u,hu,hr⟩:=hg 4 cs hcs i hi
  have hc:=hs _ _ _ hu
  have h3:vals[i]?=some u:=by simpa [World.cell?,hh] using hc
  rw [Array.getElem?_eq_getElem h1] at h3
  have h4:vals[i]=u:=by simpa using h3
  have hi2:i<Lib.pow10Tab.length:=by omega
  have h5:cs.getD i .nilptr=.int .u64 Lib.pow10Tab[i]:=by
   rw [hce];simp [List.getD,hi2]
  rw [h5] at hr
  have h6:=hr.int_inv
  rw [h4,h6]
  simp
theorem zzc (n:Int) (h0:-9223372036854775808≤n) (h1:n≤9223372036854775807):AC Tryz.prog gl 35 [.pv (.int .i64 n)] [] (.pv (.str (Lib.itoa n))) []:=by
 refine AC.ofCalls (ps:=[.int .i64 n]) fun w M vs hl hr hs hg hx=>?_
 match vs,hl with
 |[v0],_=>
  have e0:v0=_:=(hr 0 (by simp)).int_inv
  subst e0
  refine (Tryz.strconv_Itoa n h0 h1 w (zxb w M hs hg hx)).mono ?_
  rintro e w' ⟨rfl,k,os,rfl⟩
  refine ⟨_,rfl,fun g D M'=>zyx _ _ _ _,?_⟩
  exact Lib.below_grow _ w (Nat.le_refl _) k os
end Go.Proofs.YtfinhhblcdkpgaaGreatDoor
