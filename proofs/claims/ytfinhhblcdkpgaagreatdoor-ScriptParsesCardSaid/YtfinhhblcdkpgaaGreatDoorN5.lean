/- A part of the walk (Tryz_N3): its theorems have no condition beyond what they state. -/
import Derived.Test.YtfinhhblcdkpgaaGreatDoorLib2
import Derived.Test.YtfinhhblcdkpgaaGreatDoorN2
import Derived.Test.YtfinhhblcdkpgaaGreatDoorLib3
set_option maxRecDepth 100000
set_option maxHeartbeats 64000000
set_option linter.unusedSimpArgs false
set_option linter.unusedVariables false
namespace Go.Proofs.YtfinhhblcdkpgaaGreatDoor
open Go Go.Abs Go.RowKit
abbrev rT (r:TkD × Int × Int):AVal:=.tup [.agg [.pv (.int .i64 r.1.kind),.pv (.str r.1.text),.pv (.int .i64 r.1.value),.pv (.int .i64 r.1.pos)],.pv (.int .i64 r.2.1),.pv (.int .i64 r.2.2)]
theorem zus (s:List UInt8) (a:Nat) (hs:s.length≤4096) (ha:a<s.length) (hd:isD (s.getD a 0)=true):AC Tryz.prog gl 180 [.pv (.str s),.pv (.int .i64 a)] [] (rT (zoj s a)) []:=by
 have hw:=zaP a (by omega)
 have ha':(a:Int)<s.length:=by omega
 have h48:((((s.getD a 0).toNat:Nat):Int) != 48)=true ↔ s.getD a 0≠48:=zHy (s.getD a 0) 48 (by omega)
 refine zas (fun _=>0) 1 zHo ?_
 refine Wk1 (fA2 zz7 hw) ?_
 refine zaK (ι:={k:Nat // a<k∧k≤s.length∧(s.getD a 0≠48→zbW isD s k=zbW isD s (a+1))∧(s.getD a 0=48→k=a+1)∧∀ c ∈ cut s a k,isD c=true}) (fun i=>⟨(.pv (.str s)::.pv (.int .i64 a)::.junk::.junk::.ref 0 0::.junk::.junk::.pv (.int .i64 i.1)::jl 43 []),[some (.cells [.pv (.int .i64 0),.pv (.str []),.pv (.int .i64 0),.pv (.int .i64 0)])]⟩) (fun i=>s.length - i.1) ⟨a+1,by omega,by omega,fun _=>rfl,fun _=>rfl,by rw [zeX s a a ha (Nat.le_refl _),zi2];simpa using hd⟩ WFn ?_
 rintro ⟨k,hk1,hk2,hr1,hr2,hdig⟩
 have hwk:=zaP k (by omega)
 have cW:=zo2 s k (by omega) hk2
 have hst:=zcp isD s k
 have hen:=zhu isD s k
 have hcl:=zh9 s a k hk2
 have hcut:((s.take k).drop a)=cut s a k:=rfl
 by_cases hv:zbc (cut s a k)<9223372036854775808
 ·have cP:=zo1 (cut s a k) (zt4 s a k hk1 hk2) hdig (by omega) hv
  repeat' first|refine Va (fA5 zz7 ha ha' hwk hcut) ?_|(with_reducible first|refine SB.c ?_ ?_<;>intro _|exact zak)|refine CK.d0 zeI (zf5 _) ?_|refine CK.d0 zfy cW ?_|refine CK.d0 zfx cP ?_|with_reducible refine zaj ?_|omega
  ·rename_i hc
   simp only [Bool.and_eq_true,decide_eq_true_eq] at hc
   obtain ⟨⟨c1,c2⟩,c3⟩:=hc
   have hlt:k<s.length:=by omega
   have c3':isD (s.getD k 0)=true:=c3
   exact ⟨⟨k+1,by omega,by omega,fun h=>by rw [←hr1 h,hst hlt,if_pos c3'],fun h=>absurd h (h48.1 c1),fun c hcm=>by
    rw [zeX s a k hlt (by omega),List.mem_append,List.mem_singleton] at hcm
    rcases hcm with hcm|rfl
    ·exact hdig c hcm
    ·exact c3'⟩,WFn,by simp;omega⟩
  ·rename_i hc hg
   have hke:=zeY s a k hr1 hr2 hc h48
   have hg':zbW isW s k > k:=by omega
   simp [zoj,hke,hg',tk0]
  ·rename_i hc hg
   have hke:=zeY s a k hr1 hr2 hc h48
   have hg':¬ zbW isW s k > k:=by omega
   simp [zoj,hke,hg',hv,tk0]
 ·have cP:=zkS (cut s a k) (zt4 s a k hk1 hk2) hdig (by omega) hv
  repeat' first|refine Va (fA5 zz7 ha ha' hwk hcut) ?_|(with_reducible first|refine SB.c ?_ ?_<;>intro _|exact zak)|refine CK.d0 zeI (zf5 _) ?_|refine CK.d0 zfy cW ?_|refine CK.d0 zfx cP ?_|with_reducible refine zaj ?_|omega
  ·rename_i hc
   simp only [Bool.and_eq_true,decide_eq_true_eq] at hc
   obtain ⟨⟨c1,c2⟩,c3⟩:=hc
   have hlt:k<s.length:=by omega
   have c3':isD (s.getD k 0)=true:=c3
   exact ⟨⟨k+1,by omega,by omega,fun h=>by rw [←hr1 h,hst hlt,if_pos c3'],fun h=>absurd h (h48.1 c1),fun c hcm=>by
    rw [zeX s a k hlt (by omega),List.mem_append,List.mem_singleton] at hcm
    rcases hcm with hcm|rfl
    ·exact hdig c hcm
    ·exact c3'⟩,WFn,by simp;omega⟩
  ·rename_i hc hg
   have hke:=zeY s a k hr1 hr2 hc h48
   have hg':zbW isW s k > k:=by omega
   simp [zoj,hke,hg',tk0]
  ·rename_i hc hg
   have hke:=zeY s a k hr1 hr2 hc h48
   have hg':¬ zbW isW s k > k:=by omega
   simp [zoj,hke,hg',hv,tk0]
theorem zDY (s:List UInt8) (a:Nat) (hs:s.length≤4096) (ha:a<s.length):AC Tryz.prog gl 160 [.pv (.str s),.pv (.int .i64 a)] [] (rT (zcz s a)) []:=by
 have ha':(a:Int)<s.length:=by omega
 have cW:=zo2 s a (by omega) (by omega)
 have h1:=zfB isW s a
 have h2:=zh6 isW s a (by omega)
 have hsub:IntKind.i64.wrap ((zbW isW s a:Int) - a)=zbW isW s a - a:=zay _ (by omega) (by omega)
 have cS:=zAv s a hs ha
 have hs2:=zl6 (s.getD a 0).toNat (zdd s a)
 have hone:=zi0 s a ha
 have hwa:IntKind.i64.wrap ((a:Int)+zcG (s.getD a 0).toNat (zdd s a))=a+zcG (s.getD a 0).toNat (zdd s a):=zay _ (by omega) (by omega)
 have e1:zdt ((s.getD a 0).toNat:Int)=isL (s.getD a 0):=rfl
 have e2:zdc ((s.getD a 0).toNat:Int)=isD (s.getD a 0):=rfl
 refine zas (fun _=>0) 1 zHj ?_
 have hcutw:((s.take (zbW isW s a)).drop a)=cut s a (zbW isW s a):=rfl
 by_cases hl:isL (s.getD a 0)=true
 ·by_cases h16:zbW isW s a - a > 16
  ·have h16':(zbW isW s a:Int) - a > 16:=by omega
   have ho:zcz s a=(tk0,0,5):=by unfold zcz;rw [if_pos hl,if_pos h16]
   rw [ho]
   repeat' first|refine Va (fA7 ztJ ha ha' hsub e1 hl h16') ?_|(with_reducible first|refine SB.c ?_ ?_<;>intro _|exact zak)|refine CK.d0 zd8 (zee _) ?_|refine CK.d0 zfy cW ?_|with_reducible refine zaj ?_|omega
   simp [tk0]
  ·have h16':¬ (zbW isW s a:Int) - a > 16:=by omega
   have ho:zcz s a=((⟨1,cut s a (zbW isW s a),0,(a:Int)⟩:TkD),((zbW isW s a:Nat):Int),(0:Int)):=by unfold zcz;rw [if_pos hl,if_neg h16]
   rw [ho]
   repeat' first|refine Va (fA8 ztJ ha ha' hsub e1 hl h16' hcutw) ?_|(with_reducible first|refine SB.c ?_ ?_<;>intro _|exact zak)|refine CK.d0 zd8 (zee _) ?_|refine CK.d0 zfy cW ?_|with_reducible refine zaj ?_|omega
 ·have hl':isL (s.getD a 0)=false:=by simpa using hl
  by_cases hd:isD (s.getD a 0)=true
  ·have ho:zcz s a=zoj s a:=by unfold zcz;rw [if_neg hl,if_pos hd]
   have cN:=zus s a hs ha hd
   rw [ho]
   repeat' first|refine Va (fA7 ztJ ha ha' e1 hl' e2 hd) ?_|(with_reducible first|refine SB.c ?_ ?_<;>intro _|exact zak)|refine CK.d0 zd8 (zee _) ?_|refine CK.d0 zeI (zf5 _) ?_|refine CK.d0 ztY cN ?_|with_reducible refine zaj ?_|omega
  ·have hd':isD (s.getD a 0)=false:=by simpa using hd
   generalize hsg:zcG (s.getD a 0).toNat (zdd s a)=g at *
   by_cases h0:g=0
   ·have ho:zcz s a=(tk0,0,1):=by unfold zcz;rw [if_neg hl,if_neg hd,hsg,if_pos h0]
    have h0':(g==0)=true:=by simpa using h0
    rw [ho]
    repeat' first|refine Va (fA8 ztJ ha ha' e1 hl' e2 hd' h0') ?_|(with_reducible first|refine SB.c ?_ ?_<;>intro _|exact zak)|refine CK.d0 zd8 (zee _) ?_|refine CK.d0 zeI (zf5 _) ?_|refine CK.d0 znu cS ?_|with_reducible refine zaj ?_|omega
    simp [tk0]
   ·have ho:zcz s a=((⟨3,cut s a (a+g.toNat),0,(a:Int)⟩:TkD),(a:Int)+g,(0:Int)):=by unfold zcz;rw [if_neg hl,if_neg hd,hsg,if_neg h0]
    have h0':(g==0)=false:=by simpa using h0
    obtain ⟨e,he1,he2,he3⟩:=hone (by rw [ho])
    rw [ho] at he1
    have hle:(a:Int)+g≤s.length:=by simp only at he1;omega
    have hge:(a:Int)≤a+g:=by omega
    have hge0:(0:Int)≤a+g:=by omega
    have htn:((a:Int)+g).toNat=a+g.toNat:=by omega
    have hcutg:((s.take (a+g.toNat)).drop a)=cut s a (a+g.toNat):=rfl
    rw [ho]
    repeat' first|refine Va (zrC ztJ ha ha' e1 hl' e2 hd' h0' hwa hle hge hge0 htn hcutg) ?_|(with_reducible first|refine SB.c ?_ ?_<;>intro _|exact zak)|refine CK.d0 zd8 (zee _) ?_|refine CK.d0 zeI (zf5 _) ?_|refine CK.d0 znu cS ?_|with_reducible refine zaj ?_|omega
abbrev rS (r:List TkD × Int × Int):AVal:=.tup [.pv (.slice (r.1.map zfA)),.pv (.int .i64 r.2.1),.pv (.int .i64 r.2.2)]
theorem zAw (s:List UInt8):AC Tryz.prog gl 123 [.pv (.str s)] [] (rS (zhv s)) []:=by
 refine zas (fun d=>if d=7 then 0 else 2) 3 zG4 ?_
 by_cases hbig:s.length > 4096
 ·have hbig':(s.length:Int) > 4096:=by omega
  have hsc:zhv s=([],0,5):=by unfold zhv;rw [if_pos hbig]
  rw [hsc]
  refine Wk0 (fA2 zoK hbig')
 have hbig':¬ (s.length:Int) > 4096:=by omega
 have hsc:zhv s=zc4 s (s.length+1) 0 []:=by unfold zhv;rw [if_neg hbig]
 rw [hsc]
 refine Wk1 (fA2 zoK hbig') ?_
 (refine LW.weak (zaY.nilRow 5 1 4 rfl rfl (by decide)) ?_;simp only [List.set_cons_zero,List.set_cons_succ])
 refine zaK (ι:=SI s) (fun i=>⟨(.pv (.str s)::jl 4 (.row 1 i.acc.length::.pv (.int .i64 i.k)::jl 42 [])),[none,some (.row 4 (i.acc.map zfA)),none]⟩) (fun i=>s.length - i.k) (SI.start s) (WFe (by simp [kwf,SI.start_k,SI.start_acc]) (by simp [kwf,SI.start_k,SI.start_acc])) ?_
 rintro ⟨k,acc,f,hk,hf,ha,heq⟩
 by_cases hlt:k<s.length
 ·have hlt':(k:Int)<s.length:=by omega
  have hw:=zaP k (by omega)
  by_cases hb:isB (s.getD k 0)=true
  ·rcases zDH hb with hc|hc|hc|hc
   all_goals
    repeat' first|simp -implicitDefEqProofs +contextual (maxSteps:=9000000) only [kx,↓ky,zoK,simprocAttr,hlt,hlt',hc,UInt8.reduceToNat,hw]|(with_reducible first|refine SB.c ?_ ?_<;>intro _|exact zak)|with_reducible refine zaj ?_|omega
    exact ⟨SI.blank (SI.mk k acc f hk hf ha heq) hlt hb,(WFe (by simp [kwf,SI.blank_k,SI.blank_acc]) (by simp [kwf,SI.blank_k,SI.blank_acc])),by simp only [SI.blank_k];omega⟩
  ·obtain ⟨n1,n2,n3,n4⟩:=zAh hb
   have m1:=u8f n1
   have m2:=u8f n2
   have m3:=u8f n3
   have m4:=u8f n4
   simp only [UInt8.reduceToNat,Int.cast_ofNat_Int] at m1 m2 m3 m4
   by_cases hh:s.getD k 0=35
   ·have cC:=zrP s k (by omega) (by omega)
    have hg:k<zbW zbU s k∧zbW zbU s k≤s.length:=zjY (SI.mk k acc f hk hf ha heq) hlt hh
    repeat' first|simp -implicitDefEqProofs +contextual (maxSteps:=9000000) only [kx,↓ky,zoK,simprocAttr,hlt,hlt',hh,UInt8.reduceToNat]|(with_reducible first|refine SB.c ?_ ?_<;>intro _|exact zak)|refine CK.d0 ztU cC ?_|with_reducible refine zaj ?_|omega
    exact ⟨SI.hsh (SI.mk k acc f hk hf ha heq) hlt hh,(WFe (by simp [kwf,SI.hsh_k,SI.hsh_acc]) (by simp [kwf,SI.hsh_k,SI.hsh_acc])),by simp only [SI.hsh_k];omega⟩
   ·have m5:=u8f hh
    simp only [UInt8.reduceToNat,Int.cast_ofNat_Int] at m5
    have cO:=zDY s k (by omega) hlt
    by_cases h0:(zcz s k).2.2=0
    ·have hg:k<(zcz s k).2.1.toNat∧(zcz s k).2.1.toNat≤s.length∧(zcz s k).2.1=(((zcz s k).2.1.toNat:Nat):Int):=znA (SI.mk k acc f hk hf ha heq) hlt h0
     have hrm:=zc3 (acc.length+1) 40 (by have:=ha;omega)
     have h0':((zcz s k).2.2 != 0)=false:=by simpa using h0
     refine Wk1 (zg7 zoK hlt hlt' m1 m2 m3 m4 m5 h0' hrm (CE.mk znr cO)) ?_
     exact ⟨SI.tok (SI.mk k acc f hk hf ha heq) hlt hb hh h0,(WTe [0,2,1] (by simp [kwt,SI.tok_k,SI.tok_acc,zfA,←hg.2.2]) (by simp [kwt,SI.tok_k,SI.tok_acc,zfA,←hg.2.2])),by simp only [SI.tok_k];omega⟩
    ·have h0':((zcz s k).2.2 != 0)=true:=by simpa using h0
     have hbad:zc4 s (s.length+1) 0 []=([],(k:Int),(zcz s k).2.2):=SI.bad (SI.mk k acc f hk hf ha heq) hlt hb hh h0
     rw [hbad]
     refine Wk0 (zgj zoK hlt hlt' m1 m2 m3 m4 m5 h0' (CE.mk znr cO))
 ·have hlt':¬ (k:Int)<s.length:=by omega
  have hfin:zc4 s (s.length+1) 0 []=(acc,0,0):=SI.fin (SI.mk k acc f hk hf ha heq) hlt
  rw [hfin]
  refine Wk0 (fA2 zoK hlt')
  all_goals simp
theorem zb3 (n:Int):AC Tryz.prog gl 97 [.pv (.int .u8 n)] [] (.pv (.bool (zdt n))) []:=by
 refine zas (fun _=>0) 0 zJ7 ?_
 simp -implicitDefEqProofs +contextual (maxSteps:=9000000) only [kx,↓ky,zJz,simprocAttr]
 grind [zdt]
theorem zdJ (n:Int):AC Tryz.prog gl 99 [.pv (.int .u8 n)] [] (.pv (.bool (zdc n))) []:=by
 refine zas (fun _=>0) 0 zJ9 ?_
 simp -implicitDefEqProofs +contextual (maxSteps:=9000000) only [kx,↓ky,zJA,simprocAttr]
 grind [zdc]
theorem zut (c:UInt8):AC Tryz.prog gl 103 [.pv (.int .u8 c.toNat)] [] (.pv (.bool (isB c))) []:=by
 have h1:((c.toNat:Int)==9)=(c==9):=u8b c 9
 have h2:((c.toNat:Int)==10)=(c==10):=u8b c 10
 have h3:((c.toNat:Int)==13)=(c==13):=u8b c 13
 have h4:((c.toNat:Int)==32)=(c==32):=u8b c 32
 refine zas (fun _=>0) 0 zG0 ?_
 simp -implicitDefEqProofs +contextual (maxSteps:=9000000) only [kx,↓ky,zGz,simprocAttr,h1,h2,h3,h4]
 grind [isB]
theorem zrQ (a b:Int):AC Tryz.prog gl 137 [.pv (.int .u8 a),.pv (.int .u8 b)] [] (.pv (.bool (zAg a b))) []:=by
 refine zas (fun _=>0) 0 zHg ?_
 simp -implicitDefEqProofs +contextual (maxSteps:=9000000) only [kx,↓ky,zGH,simprocAttr]
 grind [zAg]
theorem zrR (c:UInt8):AC Tryz.prog gl 138 [.pv (.int .u8 c.toNat)] [] (.pv (.bool (zoR.contains c))) []:=by
 refine zas (fun _=>0) 0 zHh ?_
 simp -implicitDefEqProofs +contextual (maxSteps:=9000000) only [kx,↓ky,zz5,simprocAttr]
 refine zaK (ι:={k:Nat // k≤17∧(zoR.drop k).contains c=zoR.contains c}) (fun i=>⟨(.pv (.int .u8 c.toNat)::.junk::.junk::.pv (.int .i64 i.1)::jl 8 []),[]⟩) (fun i=>17 - i.1) ⟨0,by omega,rfl⟩ WFn ?_
 rintro ⟨k,hk,heq⟩
 have hlen:zoR.length=17:=rfl
 have hdef:([40,41,123,125,91,93,44,59,61,60,62,43,45,42,47,37,33]:List UInt8)=zoR:=rfl
 by_cases hlt:k<17
 ·have hlt':(k:Int)<17:=by omega
  have hltl:k<zoR.length:=by omega
  have hw:=zaP k (by omega)
  have hd:(zoR.drop k).contains c=(c==zoR.getD k 0 || (zoR.drop (k+1)).contains c):=by
   rw [List.drop_eq_getElem_cons hltl,List.contains_cons];simp [List.getD,hltl]
  rw [hd] at heq
  have hcc:((((zoR.getD k 0).toNat:Nat):Int)==((c.toNat:Nat):Int))=(c==zoR.getD k 0):=by
   rw [Bool.eq_iff_iff];simp only [beq_iff_eq]
   constructor
   ·intro h;exact UInt8.toNat.inj (by omega)
   ·intro h;rw [h]
  repeat' first|refine Va (fA7 zz5 hlt' hdef hltl hlen hw hcc) ?_|(with_reducible first|refine SB.c ?_ ?_<;>intro _|exact zak)|with_reducible refine zaj ?_|omega
  ·grind
  ·exact ⟨⟨k+1,by omega,by grind⟩,WFn,by simp;omega⟩
 ·have hlt':¬ (k:Int)<17:=by omega
  refine Wk1 (fA4 zz5 hlt' hdef hlen) ?_
  rw [←heq,List.drop_eq_nil_of_le (by omega)]
  rfl
theorem zlh (l:List UInt8) (hd:∀ c ∈ l,isD c=true) (hl:l.length≤4096):AC Tryz.prog gl 136 [.pv (.str l)] [] (.tup [.pv (.int .i64 (if zbc l<9223372036854775808 then (zbc l:Int) else 0)),.pv (.bool (decide (zbc l<9223372036854775808)))]) []:=by
 refine zas (fun _=>0) 0 zHf ?_
 simp -implicitDefEqProofs +contextual (maxSteps:=9000000) only [kx,↓ky,zwN,simprocAttr]
 refine zaK (ι:={q:Nat × Nat // q.1≤l.length∧q.2<9223372036854775808∧zh7 (l.drop q.1) q.2=zbc l}) (fun i=>⟨(.pv (.str l)::jl 3 (.pv (.int .i64 i.1.2)::.pv (.int .i64 i.1.1)::jl 22 [])),[]⟩) (fun i=>l.length - i.1.1) ⟨(0,0),by omega,by omega,rfl⟩ WFn ?_
 rintro ⟨⟨k,n⟩,hk,hn,heq⟩
 simp only at hk hn heq
 by_cases hlt:k<l.length
 ·have hlt':(k:Int)<l.length:=by omega
  have hw:=zaP k (by omega)
  have hdk:=zcQ (hd l[k] (List.getElem_mem hlt))
  rw [List.drop_eq_getElem_cons hlt,zeL] at heq
  have hg:l.getD k 0=l[k]:=by simp [List.getD,hlt]
  generalize l[k]=c at *
  have hge:=zoQ (l.drop (k+1)) (n * 10+(c.toNat - 48))
  obtain ⟨m,hm⟩:∃ m:Nat,c.toNat=m+48:=⟨c.toNat - 48,by omega⟩
  have hm9:m≤9:=by omega
  rw [hm] at heq hge
  simp only [Nat.add_sub_cancel] at heq hge
  have w1:IntKind.u8.wrap (((c.toNat:Nat):Int) - 48)=m:=by rw [IntWalk.u8_in _ ⟨by omega,by omega⟩];omega
  have w2:IntKind.i64.wrap (m:Int)=m:=zay _ (by omega) (by omega)
  have w3:IntKind.i64.wrap (9223372036854775807 - (m:Int))=9223372036854775807 - m:=zay _ (by omega) (by omega)
  have hdv:(9223372036854775807 - (m:Int)).tdiv 10=(9223372036854775807 - (m:Int)) / 10:=Int.tdiv_eq_ediv_of_nonneg (by omega)
  have w4:IntKind.i64.wrap ((9223372036854775807 - (m:Int)).tdiv 10)=(9223372036854775807 - (m:Int)) / 10:=by rw [hdv];exact zay _ (by omega) (by omega)
  by_cases hov:(n:Int) > (9223372036854775807 - (m:Int)) / 10
  ·have hbig:¬ zbc l<9223372036854775808:=by omega
   rw [if_neg hbig,decide_eq_false hbig]
   refine Wk0 (zgj zwN hlt' hlt hg hw w1 w2 w3 w4 hov)
  ·have w5:IntKind.i64.wrap (10 * (n:Int))=10 * n:=zay _ (by omega) (by omega)
   have w6:IntKind.i64.wrap (10 * (n:Int)+m)=((n * 10+m:Nat):Int):=by rw [zay _ (by omega) (by omega)];omega
   refine Wk1 (zg8 zwN hlt' hlt hg hw w1 w2 w3 w4 hov w5 w6) ?_
   exact ⟨⟨(k+1,n * 10+m),by simp only;omega,by simp only;omega,heq⟩,WFn,by simp;omega⟩
 ·have hlt':¬ (k:Int)<l.length:=by omega
  rw [List.drop_eq_nil_of_le (by omega),zh7] at heq
  have hv:zbc l<9223372036854775808:=by omega
  rw [if_pos hv,decide_eq_true hv]
  refine Wk0 (fA2 zwN hlt')
end Go.Proofs.YtfinhhblcdkpgaaGreatDoor
