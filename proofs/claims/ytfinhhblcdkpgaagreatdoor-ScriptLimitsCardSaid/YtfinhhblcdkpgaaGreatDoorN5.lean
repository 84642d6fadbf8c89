/- A part of the walk (Tryz_N3): its theorems have no condition beyond what they state. -/
import Derived.Test.YtfinhhblcdkpgaaGreatDoorN2
import Derived.Test.YtfinhhblcdkpgaaGreatDoorLib3
set_option maxRecDepth 100000
set_option maxHeartbeats 64000000
set_option linter.unusedSimpArgs false
set_option linter.unusedVariables false
set_option linter.defProp false
namespace Go.Proofs.YtfinhhblcdkpgaaGreatDoor
open Go Go.Abs Go.RowKit
abbrev rT (r:TkD × Int × Int):AVal:=.tup [.agg [.pv (.int .i64 r.1.kind),.pv (.str r.1.text),.pv (.int .i64 r.1.value),.pv (.int .i64 r.1.pos)],.pv (.int .i64 r.2.1),.pv (.int .i64 r.2.2)]
theorem ztf (s:List UInt8) (a:Nat) (hs:s.length≤4096) (ha:a<s.length) (hd:isD (s.getD a 0)=true):AC Tryz.prog gl 180 [.pv (.str s),.pv (.int .i64 a)] [] (rT (znJ s a)) []:=by
 have hw:=zaQ a (by omega)
 have ha':(a:Int)<s.length:=by omega
 have h48:((((s.getD a 0).toNat:Nat):Int) != 48)=true ↔ s.getD a 0≠48:=zFW (s.getD a 0) 48 (by omega)
 refine zap (fun _=>0) 1 zFL ?_
 repeat' first|refine Va (fA2 zyS hw) ?_|(with_reducible first|refine SB.c ?_ ?_<;>intro _|exact zad)|with_reducible refine zac ?_|omega
 refine zaI (ι:={k:Nat // a<k∧k≤s.length∧(s.getD a 0≠48→zbM isD s k=zbM isD s (a+1))∧(s.getD a 0=48→k=a+1)∧∀ c ∈ cut s a k,isD c=true}) (fun i=>⟨(.pv (.str s)::.pv (.int .i64 a)::.junk::.junk::.ref 0 0::.junk::.junk::.pv (.int .i64 i.1)::jl 43 []),[some (.cells [.pv (.int .i64 0),.pv (.str []),.pv (.int .i64 0),.pv (.int .i64 0)])]⟩) (fun i=>s.length - i.1) ⟨a+1,by omega,by omega,fun _=>rfl,fun _=>rfl,by rw [zeH s a a ha (Nat.le_refl _),ziq];simpa using hd⟩ WFn ?_
 rintro ⟨k,hk1,hk2,hr1,hr2,hdig⟩
 have hwk:=zaQ k (by omega)
 have cW:=zos s k (by omega) hk2
 have hst:=zcf isD s k
 have hen:=zgW isD s k
 have hcl:=zhw s a k hk2
 have hcut:((s.take k).drop a)=cut s a k:=rfl
 by_cases hv:zba (cut s a k)<9223372036854775808
 ·have cP:=zor (cut s a k) (zsU s a k hk1 hk2) hdig (by omega) hv
  repeat' first|refine Va (fA5 zyS ha ha' hwk hcut) ?_|(with_reducible first|refine SB.c ?_ ?_<;>intro _|exact zad)|refine CK.d0 zet (zfK _) ?_|refine CK.d0 zfj cW ?_|refine CK.d0 zfi cP ?_|with_reducible refine zac ?_|omega
  ·rename_i hc
   simp only [Bool.and_eq_true,decide_eq_true_eq] at hc
   obtain ⟨⟨c1,c2⟩,c3⟩:=hc
   have hlt:k<s.length:=by omega
   have c3':isD (s.getD k 0)=true:=c3
   exact ⟨⟨k+1,by omega,by omega,fun h=>by rw [←hr1 h,hst hlt,if_pos c3'],fun h=>absurd h (h48.1 c1),fun c hcm=>by
    rw [zeH s a k hlt (by omega),List.mem_append,List.mem_singleton] at hcm
    rcases hcm with hcm|rfl
    ·exact hdig c hcm
    ·exact c3'⟩,WFn,by simp;omega⟩
  ·rename_i hc hg
   have hke:=zeI s a k hr1 hr2 hc h48
   have hg':zbM isW s k > k:=by omega
   simp [znJ,hke,hg',tk0]
  ·rename_i hc hg
   have hke:=zeI s a k hr1 hr2 hc h48
   have hg':¬ zbM isW s k > k:=by omega
   simp [znJ,hke,hg',hv,tk0]
 ·have cP:=zkl (cut s a k) (zsU s a k hk1 hk2) hdig (by omega) hv
  repeat' first|refine Va (fA5 zyS ha ha' hwk hcut) ?_|(with_reducible first|refine SB.c ?_ ?_<;>intro _|exact zad)|refine CK.d0 zet (zfK _) ?_|refine CK.d0 zfj cW ?_|refine CK.d0 zfi cP ?_|with_reducible refine zac ?_|omega
  ·rename_i hc
   simp only [Bool.and_eq_true,decide_eq_true_eq] at hc
   obtain ⟨⟨c1,c2⟩,c3⟩:=hc
   have hlt:k<s.length:=by omega
   have c3':isD (s.getD k 0)=true:=c3
   exact ⟨⟨k+1,by omega,by omega,fun h=>by rw [←hr1 h,hst hlt,if_pos c3'],fun h=>absurd h (h48.1 c1),fun c hcm=>by
    rw [zeH s a k hlt (by omega),List.mem_append,List.mem_singleton] at hcm
    rcases hcm with hcm|rfl
    ·exact hdig c hcm
    ·exact c3'⟩,WFn,by simp;omega⟩
  ·rename_i hc hg
   have hke:=zeI s a k hr1 hr2 hc h48
   have hg':zbM isW s k > k:=by omega
   simp [znJ,hke,hg',tk0]
  ·rename_i hc hg
   have hke:=zeI s a k hr1 hr2 hc h48
   have hg':¬ zbM isW s k > k:=by omega
   simp [znJ,hke,hg',hv,tk0]
theorem zCv (s:List UInt8) (a:Nat) (hs:s.length≤4096) (ha:a<s.length):AC Tryz.prog gl 160 [.pv (.str s),.pv (.int .i64 a)] [] (rT (zcp s a)) []:=by
 have ha':(a:Int)<s.length:=by omega
 have cW:=zos s a (by omega) (by omega)
 have h1:=zfl isW s a
 have h2:=zht isW s a (by omega)
 have hsub:IntKind.i64.wrap ((zbM isW s a:Int) - a)=zbM isW s a - a:=zaS _ (by omega) (by omega)
 have cS:=zy9 s a hs ha
 have hs2:=zlG (s.getD a 0).toNat (zcX s a)
 have hone:=zio s a ha
 have hwa:IntKind.i64.wrap ((a:Int)+zct (s.getD a 0).toNat (zcX s a))=a+zct (s.getD a 0).toNat (zcX s a):=zaS _ (by omega) (by omega)
 have e1:zdf ((s.getD a 0).toNat:Int)=isL (s.getD a 0):=rfl
 have e2:zcU ((s.getD a 0).toNat:Int)=isD (s.getD a 0):=rfl
 refine zap (fun _=>0) 1 zFG ?_
 have hcutw:((s.take (zbM isW s a)).drop a)=cut s a (zbM isW s a):=rfl
 by_cases hl:isL (s.getD a 0)=true
 ·by_cases h16:zbM isW s a - a > 16
  ·have h16':(zbM isW s a:Int) - a > 16:=by omega
   have ho:zcp s a=(tk0,0,5):=by unfold zcp;rw [if_pos hl,if_pos h16]
   rw [ho]
   repeat' first|refine Va (fA7 zsB ha ha' hsub e1 hl h16') ?_|(with_reducible first|refine SB.c ?_ ?_<;>intro _|exact zad)|refine CK.d0 zdY (zd4 _) ?_|refine CK.d0 zfj cW ?_|with_reducible refine zac ?_|omega
   simp [tk0]
  ·have h16':¬ (zbM isW s a:Int) - a > 16:=by omega
   have ho:zcp s a=((⟨1,cut s a (zbM isW s a),0,(a:Int)⟩:TkD),((zbM isW s a:Nat):Int),(0:Int)):=by unfold zcp;rw [if_pos hl,if_neg h16]
   rw [ho]
   repeat' first|refine Va (fA8 zsB ha ha' hsub e1 hl h16' hcutw) ?_|(with_reducible first|refine SB.c ?_ ?_<;>intro _|exact zad)|refine CK.d0 zdY (zd4 _) ?_|refine CK.d0 zfj cW ?_|with_reducible refine zac ?_|omega
 ·have hl':isL (s.getD a 0)=false:=by simpa using hl
  by_cases hd:isD (s.getD a 0)=true
  ·have ho:zcp s a=znJ s a:=by unfold zcp;rw [if_neg hl,if_pos hd]
   have cN:=ztf s a hs ha hd
   rw [ho]
   repeat' first|refine Va (fA7 zsB ha ha' e1 hl' e2 hd) ?_|(with_reducible first|refine SB.c ?_ ?_<;>intro _|exact zad)|refine CK.d0 zdY (zd4 _) ?_|refine CK.d0 zet (zfK _) ?_|refine CK.d0 zsP cN ?_|with_reducible refine zac ?_|omega
  ·have hd':isD (s.getD a 0)=false:=by simpa using hd
   generalize hsg:zct (s.getD a 0).toNat (zcX s a)=g at *
   by_cases h0:g=0
   ·have ho:zcp s a=(tk0,0,1):=by unfold zcp;rw [if_neg hl,if_neg hd,hsg,if_pos h0]
    have h0':(g==0)=true:=by simpa using h0
    rw [ho]
    repeat' first|refine Va (fA8 zsB ha ha' e1 hl' e2 hd' h0') ?_|(with_reducible first|refine SB.c ?_ ?_<;>intro _|exact zad)|refine CK.d0 zdY (zd4 _) ?_|refine CK.d0 zet (zfK _) ?_|refine CK.d0 zmY cS ?_|with_reducible refine zac ?_|omega
    simp [tk0]
   ·have ho:zcp s a=((⟨3,cut s a (a+g.toNat),0,(a:Int)⟩:TkD),(a:Int)+g,(0:Int)):=by unfold zcp;rw [if_neg hl,if_neg hd,hsg,if_neg h0]
    have h0':(g==0)=false:=by simpa using h0
    obtain ⟨e,he1,he2,he3⟩:=hone (by rw [ho])
    rw [ho] at he1
    have hle:(a:Int)+g≤s.length:=by simp only at he1;omega
    have hge:(a:Int)≤a+g:=by omega
    have hge0:(0:Int)≤a+g:=by omega
    have htn:((a:Int)+g).toNat=a+g.toNat:=by omega
    have hcutg:((s.take (a+g.toNat)).drop a)=cut s a (a+g.toNat):=rfl
    rw [ho]
    repeat' first|refine Va (zBC zsB ha ha' e1 hl' e2 hd' h0' hwa hle hge hge0 htn hcutg) ?_|(with_reducible first|refine SB.c ?_ ?_<;>intro _|exact zad)|refine CK.d0 zdY (zd4 _) ?_|refine CK.d0 zet (zfK _) ?_|refine CK.d0 zmY cS ?_|with_reducible refine zac ?_|omega
abbrev rS (r:List TkD × Int × Int):AVal:=.tup [.pv (.slice (r.1.map zfk)),.pv (.int .i64 r.2.1),.pv (.int .i64 r.2.2)]
theorem zza (s:List UInt8):AC Tryz.prog gl 123 [.pv (.str s)] [] (rS (zgX s)) []:=by
 refine zap (fun d=>if d=7 then 0 else 2) 3 zFs ?_
 by_cases hbig:s.length > 4096
 ·have hbig':(s.length:Int) > 4096:=by omega
  have hsc:zgX s=([],0,5):=by unfold zgX;rw [if_pos hbig]
  rw [hsc]
  repeat' first|refine Va (fA2 zob hbig') ?_|(with_reducible first|refine SB.c ?_ ?_<;>intro _|exact zad)|with_reducible refine zac ?_|omega
 have hbig':¬ (s.length:Int) > 4096:=by omega
 have hsc:zgX s=zcL s (s.length+1) 0 []:=by unfold zgX;rw [if_neg hbig]
 rw [hsc]
 repeat' first|refine Va (fA2 zob hbig') ?_|(with_reducible first|refine SB.c ?_ ?_<;>intro _|exact zad)|with_reducible refine zac ?_|omega
 (refine LW.weak (za0.nilRow 5 1 4 rfl rfl (by decide)) ?_;simp only [List.set_cons_zero,List.set_cons_succ])
 refine zaI (ι:=SI s) (fun i=>⟨(.pv (.str s)::jl 4 (.row 1 i.acc.length::.pv (.int .i64 i.k)::jl 42 [])),[none,some (.row 4 (i.acc.map zfk)),none]⟩) (fun i=>s.length - i.k) (SI.start s) (WFe (by simp [kwf,SI.start_k,SI.start_acc]) (by simp [kwf,SI.start_k,SI.start_acc])) ?_
 rintro ⟨k,acc,f,hk,hf,ha,heq⟩
 by_cases hlt:k<s.length
 ·have hlt':(k:Int)<s.length:=by omega
  have hw:=zaQ k (by omega)
  by_cases hb:isB (s.getD k 0)=true
  ·rcases zCj hb with hc|hc|hc|hc
   all_goals
    repeat' first|simp -implicitDefEqProofs +contextual (maxSteps:=9000000) only [kx,↓ky,zob,simprocAttr,hlt,hlt',hc,UInt8.reduceToNat,hw]|(with_reducible first|refine SB.c ?_ ?_<;>intro _|exact zad)|with_reducible refine zac ?_|omega
    exact ⟨SI.blank (SI.mk k acc f hk hf ha heq) hlt hb,(WFe (by simp [kwf,SI.blank_k,SI.blank_acc]) (by simp [kwf,SI.blank_k,SI.blank_acc])),by simp only [SI.blank_k];omega⟩
  ·obtain ⟨n1,n2,n3,n4⟩:=zy3 hb
   have m1:=u8f n1
   have m2:=u8f n2
   have m3:=u8f n3
   have m4:=u8f n4
   simp only [UInt8.reduceToNat,Int.cast_ofNat_Int] at m1 m2 m3 m4
   by_cases hh:s.getD k 0=35
   ·have cC:=zqQ s k (by omega) (by omega)
    have hg:k<zbM zbL s k∧zbM zbL s k≤s.length:=zjs (SI.mk k acc f hk hf ha heq) hlt hh
    repeat' first|simp -implicitDefEqProofs +contextual (maxSteps:=9000000) only [kx,↓ky,zob,simprocAttr,hlt,hlt',hh,UInt8.reduceToNat]|(with_reducible first|refine SB.c ?_ ?_<;>intro _|exact zad)|refine CK.d0 zsL cC ?_|with_reducible refine zac ?_|omega
    exact ⟨SI.hsh (SI.mk k acc f hk hf ha heq) hlt hh,(WFe (by simp [kwf,SI.hsh_k,SI.hsh_acc]) (by simp [kwf,SI.hsh_k,SI.hsh_acc])),by simp only [SI.hsh_k];omega⟩
   ·have m5:=u8f hh
    simp only [UInt8.reduceToNat,Int.cast_ofNat_Int] at m5
    have cO:=zCv s k (by omega) hlt
    by_cases h0:(zcp s k).2.2=0
    ·have hg:k<(zcp s k).2.1.toNat∧(zcp s k).2.1.toNat≤s.length∧(zcp s k).2.1=(((zcp s k).2.1.toNat:Nat):Int):=zm9 (SI.mk k acc f hk hf ha heq) hlt h0
     have hrm:=zc8 (acc.length+1) 40 (by have:=ha;omega)
     have h0':((zcp s k).2.2 != 0)=false:=by simpa using h0
     repeat' first|refine Va (zj4 zob hlt hlt' m1 m2 m3 m4 m5 h0' hrm) ?_|(with_reducible first|refine SB.c ?_ ?_<;>intro _|exact zad)|refine CK.d0 zmV cO ?_|with_reducible refine zac ?_|omega
     exact ⟨SI.tok (SI.mk k acc f hk hf ha heq) hlt hb hh h0,(WTe [0,2,1] (by simp [kwt,SI.tok_k,SI.tok_acc,zfk,←hg.2.2]) (by simp [kwt,SI.tok_k,SI.tok_acc,zfk,←hg.2.2])),by simp only [SI.tok_k];omega⟩
    ·have h0':((zcp s k).2.2 != 0)=true:=by simpa using h0
     have hbad:zcL s (s.length+1) 0 []=([],(k:Int),(zcp s k).2.2):=SI.bad (SI.mk k acc f hk hf ha heq) hlt hb hh h0
     rw [hbad]
     repeat' first|refine Va (fA9 zob hlt hlt' m1 m2 m3 m4 m5 h0') ?_|(with_reducible first|refine SB.c ?_ ?_<;>intro _|exact zad)|refine CK.d0 zmV cO ?_|with_reducible refine zac ?_|omega
 ·have hlt':¬ (k:Int)<s.length:=by omega
  have hfin:zcL s (s.length+1) 0 []=(acc,0,0):=SI.fin (SI.mk k acc f hk hf ha heq) hlt
  rw [hfin]
  repeat' first|refine Va (fA2 zob hlt') ?_|(with_reducible first|refine SB.c ?_ ?_<;>intro _|exact zad)|with_reducible refine zac ?_|omega
  all_goals simp
theorem zbQ (n:Int):AC Tryz.prog gl 97 [.pv (.int .u8 n)] [] (.pv (.bool (zdf n))) []:=by
 refine zap (fun _=>0) 0 zIt ?_
 simp -implicitDefEqProofs +contextual (maxSteps:=9000000) only [kx,↓ky,zHV,simprocAttr]
 grind [zdf]
theorem zdw (n:Int):AC Tryz.prog gl 99 [.pv (.int .u8 n)] [] (.pv (.bool (zcU n))) []:=by
 refine zap (fun _=>0) 0 zIv ?_
 simp -implicitDefEqProofs +contextual (maxSteps:=9000000) only [kx,↓ky,zHW,simprocAttr]
 grind [zcU]
theorem ztg (c:UInt8):AC Tryz.prog gl 103 [.pv (.int .u8 c.toNat)] [] (.pv (.bool (isB c))) []:=by
 have h1:((c.toNat:Int)==9)=(c==9):=u8b c 9
 have h2:((c.toNat:Int)==10)=(c==10):=u8b c 10
 have h3:((c.toNat:Int)==13)=(c==13):=u8b c 13
 have h4:((c.toNat:Int)==32)=(c==32):=u8b c 32
 refine zap (fun _=>0) 0 zFo ?_
 simp -implicitDefEqProofs +contextual (maxSteps:=9000000) only [kx,↓ky,zEV,simprocAttr,h1,h2,h3,h4]
 grind [isB]
theorem zqR (a b:Int):AC Tryz.prog gl 137 [.pv (.int .u8 a),.pv (.int .u8 b)] [] (.pv (.bool (zy2 a b))) []:=by
 refine zap (fun _=>0) 0 zFD ?_
 simp -implicitDefEqProofs +contextual (maxSteps:=9000000) only [kx,↓ky,zE2,simprocAttr]
 grind [zy2]
theorem zqS (c:UInt8):AC Tryz.prog gl 138 [.pv (.int .u8 c.toNat)] [] (.pv (.bool (zoi.contains c))) []:=by
 refine zap (fun _=>0) 0 zFE ?_
 simp -implicitDefEqProofs +contextual (maxSteps:=9000000) only [kx,↓ky,zyQ,simprocAttr]
 refine zaI (ι:={k:Nat // k≤17∧(zoi.drop k).contains c=zoi.contains c}) (fun i=>⟨(.pv (.int .u8 c.toNat)::.junk::.junk::.pv (.int .i64 i.1)::jl 8 []),[]⟩) (fun i=>17 - i.1) ⟨0,by omega,rfl⟩ WFn ?_
 rintro ⟨k,hk,heq⟩
 have hlen:zoi.length=17:=rfl
 have hdef:([40,41,123,125,91,93,44,59,61,60,62,43,45,42,47,37,33]:List UInt8)=zoi:=rfl
 by_cases hlt:k<17
 ·have hlt':(k:Int)<17:=by omega
  have hltl:k<zoi.length:=by omega
  have hw:=zaQ k (by omega)
  have hd:(zoi.drop k).contains c=(c==zoi.getD k 0 || (zoi.drop (k+1)).contains c):=by
   rw [List.drop_eq_getElem_cons hltl,List.contains_cons];simp [List.getD,hltl]
  rw [hd] at heq
  have hcc:((((zoi.getD k 0).toNat:Nat):Int)==((c.toNat:Nat):Int))=(c==zoi.getD k 0):=by
   rw [Bool.eq_iff_iff];simp only [beq_iff_eq]
   constructor
   ·intro h;exact UInt8.toNat.inj (by omega)
   ·intro h;rw [h]
  repeat' first|refine Va (fA7 zyQ hlt' hdef hltl hlen hw hcc) ?_|(with_reducible first|refine SB.c ?_ ?_<;>intro _|exact zad)|with_reducible refine zac ?_|omega
  ·grind
  ·exact ⟨⟨k+1,by omega,by grind⟩,WFn,by simp;omega⟩
 ·have hlt':¬ (k:Int)<17:=by omega
  repeat' first|refine Va (fA4 zyQ hlt' hdef hlen) ?_|(with_reducible first|refine SB.c ?_ ?_<;>intro _|exact zad)|with_reducible refine zac ?_|omega
  rw [←heq,List.drop_eq_nil_of_le (by omega)]
  rfl
theorem zkK (l:List UInt8) (hd:∀ c ∈ l,isD c=true) (hl:l.length≤4096):AC Tryz.prog gl 136 [.pv (.str l)] [] (.tup [.pv (.int .i64 (if zba l<9223372036854775808 then (zba l:Int) else 0)),.pv (.bool (decide (zba l<9223372036854775808)))]) []:=by
 refine zap (fun _=>0) 0 zFC ?_
 simp -implicitDefEqProofs +contextual (maxSteps:=9000000) only [kx,↓ky,zvC,simprocAttr]
 refine zaI (ι:={q:Nat × Nat // q.1≤l.length∧q.2<9223372036854775808∧zhu (l.drop q.1) q.2=zba l}) (fun i=>⟨(.pv (.str l)::jl 3 (.pv (.int .i64 i.1.2)::.pv (.int .i64 i.1.1)::jl 22 [])),[]⟩) (fun i=>l.length - i.1.1) ⟨(0,0),by omega,by omega,rfl⟩ WFn ?_
 rintro ⟨⟨k,n⟩,hk,hn,heq⟩
 simp only at hk hn heq
 by_cases hlt:k<l.length
 ·have hlt':(k:Int)<l.length:=by omega
  have hw:=zaQ k (by omega)
  have hdk:=zcC (hd l[k] (List.getElem_mem hlt))
  rw [List.drop_eq_getElem_cons hlt,zew] at heq
  have hg:l.getD k 0=l[k]:=by simp [List.getD,hlt]
  generalize l[k]=c at *
  have hge:=zoh (l.drop (k+1)) (n * 10+(c.toNat - 48))
  obtain ⟨m,hm⟩:∃ m:Nat,c.toNat=m+48:=⟨c.toNat - 48,by omega⟩
  have hm9:m≤9:=by omega
  rw [hm] at heq hge
  simp only [Nat.add_sub_cancel] at heq hge
  have w1:IntKind.u8.wrap (((c.toNat:Nat):Int) - 48)=m:=by rw [IntWalk.u8_in _ ⟨by omega,by omega⟩];omega
  have w2:IntKind.i64.wrap (m:Int)=m:=zaS _ (by omega) (by omega)
  have w3:IntKind.i64.wrap (9223372036854775807 - (m:Int))=9223372036854775807 - m:=zaS _ (by omega) (by omega)
  have hdv:(9223372036854775807 - (m:Int)).tdiv 10=(9223372036854775807 - (m:Int)) / 10:=Int.tdiv_eq_ediv_of_nonneg (by omega)
  have w4:IntKind.i64.wrap ((9223372036854775807 - (m:Int)).tdiv 10)=(9223372036854775807 - (m:Int)) / 10:=by rw [hdv];exact zaS _ (by omega) (by omega)
  by_cases hov:(n:Int) > (9223372036854775807 - (m:Int)) / 10
  ·have hbig:¬ zba l<9223372036854775808:=by omega
   rw [if_neg hbig,decide_eq_false hbig]
   repeat' first|refine Va (zj4 zvC hlt' hlt hg hw w1 w2 w3 w4 hov) ?_|(with_reducible first|refine SB.c ?_ ?_<;>intro _|exact zad)|with_reducible refine zac ?_|omega
  ·have w5:IntKind.i64.wrap (10 * (n:Int))=10 * n:=zaS _ (by omega) (by omega)
   have w6:IntKind.i64.wrap (10 * (n:Int)+m)=((n * 10+m:Nat):Int):=by rw [zaS _ (by omega) (by omega)];omega
   repeat' first|refine Va (zkA zvC hlt' hlt hg hw w1 w2 w3 w4 hov w5 w6) ?_|(with_reducible first|refine SB.c ?_ ?_<;>intro _|exact zad)|with_reducible refine zac ?_|omega
   exact ⟨⟨(k+1,n * 10+m),by simp only;omega,by simp only;omega,heq⟩,WFn,by simp;omega⟩
 ·have hlt':¬ (k:Int)<l.length:=by omega
  rw [List.drop_eq_nil_of_le (by omega),zhu] at heq
  have hv:zba l<9223372036854775808:=by omega
  rw [if_pos hv,decide_eq_true hv]
  repeat' first|refine Va (fA2 zvC hlt') ?_|(with_reducible first|refine SB.c ?_ ?_<;>intro _|exact zad)|with_reducible refine zac ?_|omega
end Go.Proofs.YtfinhhblcdkpgaaGreatDoor
