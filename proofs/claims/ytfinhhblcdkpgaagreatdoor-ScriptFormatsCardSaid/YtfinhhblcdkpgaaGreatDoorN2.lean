/- A part of the walk (Tryz_N2): its theorems have no condition beyond what they state. -/
import Derived.Test.YtfinhhblcdkpgaaGreatDoorT0
import Derived.Test.YtfinhhblcdkpgaaGreatDoorShelf
import Derived.Test.YtfinhhblcdkpgaaGreatDoorLib2
import Derived.Test.YtfinhhblcdkpgaaGreatDoorLib3
import Derived.Lib.AtoiErrMem
set_option maxRecDepth 100000
set_option maxHeartbeats 64000000
set_option linter.unusedSimpArgs false
set_option linter.unusedVariables false
set_option linter.defProp false
namespace Go.Proofs.YtfinhhblcdkpgaaGreatDoor
open Go Go.Abs Go.RowKit
theorem zlE (s:List UInt8) (c:Int):AC Tryz.prog gl 179 [.pv (.str s),.pv (.int .u8 c)] [] (.pv (.int .i64 (Lib.indexByte s c.toNat.toUInt8))) []:=by
 refine AC.ofCalls (ps:=[.str s,.int .u8 c]) fun w M vs hl hr hs hg hx=>?_
 match vs,hl with
 |[v0,v1],_=>
  have e0:v0=_:=(hr 0 (by simp)).str_inv
  have e1:v1=_:=(hr 1 (by simp)).int_inv
  subst e0 e1
  refine (Tryz.strings_IndexByte ⟨s.toArray⟩ c w).mono ?_
  rintro e w' ⟨rfl,rfl⟩
  exact ⟨_,rfl,fun g D M'=>.pv (.int _ _),Below.refl _ _⟩
theorem zmI (l:List UInt8) (h0:l≠[]) (hd:∀ c ∈ l,isD c=true) (hl:l.length≤4096) (hv:zdr l<9223372036854775808):AC Tryz.prog gl 121 [.pv (.str l),.pv (.int .i64 10),.pv (.int .i64 64)] [] (.tup [.pv (.int .i64 (zdr l)),.pv (.err true)]) []:=by
 refine AC.ofCalls (ps:=[.str l,.int .i64 10,.int .i64 64]) fun w M vs hvl hr hs hg hx=>?_
 match vs,hvl with
 |[v0,v1,v2],_=>
  have e0:v0=_:=(hr 0 (by simp)).str_inv
  have e1:v1=_:=(hr 1 (by simp)).int_inv
  have e2:v2=_:=(hr 2 (by simp)).int_inv
  subst e0 e1 e2
  refine (Tryz.strconv_ParseInt_10_at64_ok ⟨l.toArray⟩ (by simp [ByteArray.size];omega) (zdr l) (by have:=zfu l h0 hd;rw [if_pos hv] at this;simpa using this) w).mono ?_
  rintro e w' ⟨rfl,hw⟩
  refine ⟨_,rfl,fun g D M'=>zjl (.pv (.int _ _)) (.pv .errn),?_⟩
  rcases hw with rfl|⟨t,rfl⟩
  ·exact Below.refl _ _
  ·exact Lib.bytesWorld_below w _ t
theorem zi4 (l:List UInt8) (h0:l≠[]) (hd:∀ c ∈ l,isD c=true) (hl:l.length≤4096) (hv:¬ zdr l<9223372036854775808):AC Tryz.prog gl 121 [.pv (.str l),.pv (.int .i64 10),.pv (.int .i64 64)] [] (.tup [.junk,.pv (.err false)]) []:=by
 refine AC.ofCalls (ps:=[.str l,.int .i64 10,.int .i64 64]) fun w M vs hvl hr hs hg hx=>?_
 match vs,hvl with
 |[v0,v1,v2],_=>
  have e0:v0=_:=(hr 0 (by simp)).str_inv
  have e1:v1=_:=(hr 1 (by simp)).int_inv
  have e2:v2=_:=(hr 2 (by simp)).int_inv
  subst e0 e1 e2
  obtain ⟨u,hu,hru⟩:=hg 11 [.err false] rfl 0 (by simp)
  have hiv:∃ t v,u=.iface t v:=by
   rcases hru.err_inv with ⟨h,_⟩|⟨_,t,v,h⟩
   ·cases h
   ·exact ⟨t,v,h⟩
  refine (Tryz.strconv_ParseInt_10_at64_range ⟨l.toArray⟩ (by simp [ByteArray.size];omega) (by have:=zfu l h0 hd;rw [if_neg hv] at this;simpa using this) u w (hs _ _ _ hu) (.inr hiv)).mono ?_
  rintro e w' ⟨N,rfl,_,_,hb⟩
  exact ⟨_,rfl,fun g D M'=>zjl (.junk _) (.pv (.erri _ _)),hb⟩
theorem zdo (n:Int):AC Tryz.prog gl 126 [.pv (.int .u8 n)] [] (.pv (.bool (zcX n))) []:=by
 refine zam (fun _=>0) 0 zCI ?_
 simp -implicitDefEqProofs +contextual (maxSteps:=9000000) only [kx,↓ky,zCk,simprocAttr]
 grind [zcX]
theorem zeY (n:Int):AC Tryz.prog gl 165 [.pv (.int .u8 n)] [] (.pv (.bool (zd9 n))) []:=by
 refine zam (fun _=>0) 0 zCW ?_
 simp -implicitDefEqProofs +contextual (maxSteps:=9000000) only [kx,↓ky,zCr,simprocAttr]
 grind [zd9]
theorem zmJ (s:List UInt8) (a:Nat) (hs:s.length≤1099511627776) (ha:a≤s.length):AC Tryz.prog gl 127 [.pv (.str s),.pv (.int .i64 a)] [] (.pv (.int .i64 (zcr isW s a))) []:=by
 refine zam (fun _=>0) 0 zCJ ?_
 simp -implicitDefEqProofs +contextual (maxSteps:=9000000) only [kx,↓ky,zzx,simprocAttr]
 refine za6 (ι:={k:Nat // k≤s.length∧zcr isW s k=zcr isW s a}) (fun i=>⟨(.pv (.str s)::.pv (.int .i64 i.1)::.junk::.junk::.pv (.int .i64 0)::jl 19 []),[]⟩) (fun i=>s.length - i.1) ⟨a,ha,rfl⟩ WFn ?_
 rintro ⟨k,hk,heq⟩
 have hst:=zdk isW s k
 have hen:=zkj isW s k
 have hw:k<s.length→IntKind.i64.wrap ((k:Int)+1)=((k+1:Nat):Int):=fun h=>zbc k (by omega)
 (repeat' (first|refine Va zzx ?_|(with_reducible first|refine SB.c ?_ ?_<;>intro _|exact zac)|refine CK.d0 zdi (zdo _) ?_|refine CK.d0 zdH (zeY _) ?_|with_reducible refine zab ?_|omega))
 ·rename_i hc
  simp only [Bool.and_eq_true,decide_eq_true_eq] at hc
  have hlt:k<s.length:=by omega
  have hW:isW (s.getD k 0)=true:=hc.2
  rw [hst hlt,if_pos hW] at heq
  exact ⟨⟨k+1,by omega,heq⟩,(WFe (by simp [kwf,hw hlt]) (by simp [kwf,hw hlt])),by simp;omega⟩
 ·rename_i hc
  rw [←heq]
  by_cases hlt:k<s.length
  ·have hW:isW (s.getD k 0)=false:=by
    simp only [Bool.and_eq_false_iff,decide_eq_false_iff_not] at hc
    rcases hc with h|h
    ·omega
    ·exact h
   rw [hst hlt,hW];simp
  ·rw [hen (by omega)]
theorem zo9 (s:List UInt8) (a:Nat) (hs:s.length≤4096) (ha:a≤s.length):AC Tryz.prog gl 159 [.pv (.str s),.pv (.int .i64 a)] [] (.pv (.int .i64 (zcr zbQ s a))) []:=by
 rw [←zjt s a ha]
 have hc:=zlE (s.drop a) 10
 have hb:=zjt s a ha
 have h1:=zgx zbQ s a ha
 have h2:=zft zbQ s a
 have htk:s.take s.length=s:=List.take_length
 replace hc:AC Tryz.prog gl 179 [.pv (.str (s.drop a)),.pv (.int .u8 10)] [] (.pv (.int .i64 (Lib.indexByte (s.drop a) 10))) []:=hc
 generalize Lib.indexByte (s.drop a) 10=x at *
 have hw:¬ x<0→IntKind.i64.wrap ((a:Int)+x)=a+x:=fun h=>zat _ (by omega) (by rw [if_neg h] at hb;omega)
 refine zam (fun _=>0) 0 zCS ?_
 (repeat' (first|refine Va (fA2 zCq htk) ?_|(with_reducible first|refine SB.c ?_ ?_<;>intro _|exact zac)|refine CK.d0 zq0 hc ?_|with_reducible refine zab ?_|omega))
 all_goals grind
theorem zwS (s:List UInt8) (a:Nat) (hs:s.length≤4096) (ha:a<s.length):AC Tryz.prog gl 181 [.pv (.str s),.pv (.int .i64 a)] [] (.pv (.int .i64 (zcF (s.getD a 0).toNat (zdA s a)))) []:=by
 have hw:=zbc a (by omega)
 have ha':(a:Int)<s.length:=by omega
 unfold zdA
 refine zam (fun _=>0) 0 zCZ ?_
 by_cases h1:a+1<s.length
 ·have h1':((a+1:Nat):Int)<s.length:=by omega
  rw [if_pos h1]
  (repeat' (first|refine Va (fA6 zzz ha ha' hw h1 h1') ?_|(with_reducible first|refine SB.c ?_ ?_<;>intro _|exact zac)|with_reducible refine zab ?_|omega))
  all_goals grind [zcF]
 ·have h1':¬ ((a+1:Nat):Int)<s.length:=by omega
  rw [if_neg h1]
  (repeat' (first|refine Va (fA5 zzz ha ha' hw h1') ?_|(with_reducible first|refine SB.c ?_ ?_<;>intro _|exact zac)|with_reducible refine zab ?_|omega))
  all_goals grind [zcF]
end Go.Proofs.YtfinhhblcdkpgaaGreatDoor
