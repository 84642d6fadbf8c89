/- The reading of a number. No condition. -/
import Derived.Test.YtfinhhblcdkpgaaGreatDoorK0
import Derived.Test.YtfinhhblcdkpgaaGreatDoorN12
set_option maxRecDepth 100000
set_option maxHeartbeats 64000000
set_option linter.unusedSimpArgs false
set_option linter.unusedVariables false
set_option linter.defProp false
namespace Go.Proofs.YtfinhhblcdkpgaaGreatDoor
open Go Go.Abs Go.RowKit
theorem zzV (n:Int) (h0:-9223372036854775808≤n) (h1:n≤9223372036854775807):AC Tryz.prog gl 122 [.pv (.int .i64 n),.pv (.int .i64 10)] [] (.pv (.str (Lib.itoa n))) []:=by
 refine AC.ofCalls (ps:=[.int .i64 n,.int .i64 10]) fun w M vs hl hr hs hg hx=>?_
 match vs,hl with
 |[v0,v1],_=>
  have e0:v0=_:=(hr 0 (by simp)).int_inv
  have e1:v1=_:=(hr 1 (by simp)).int_inv
  subst e0 e1
  refine (Tryz.strconv_FormatInt_10 n h0 h1 w (zuY w M hs hg hx)).mono ?_
  rintro e w' ⟨rfl,k,os,rfl⟩
  refine ⟨_,rfl,fun g D M'=>zwh _ _ _ _,?_⟩
  exact Lib.below_grow _ w (Nat.le_refl _) k os
theorem zzW (l:List UInt8) (hl:l.length≤100000) (v:Int) (h:Lib.parseIntB 64 l=.ok v):AC Tryz.prog gl 121 [.pv (.str l),.pv (.int .i64 10),.pv (.int .i64 64)] [] (.tup [.pv (.int .i64 v),.pv (.err true)]) []:=by
 refine AC.ofCalls (ps:=[.str l,.int .i64 10,.int .i64 64]) fun w M vs hvl hr hs hg hx=>?_
 match vs,hvl with
 |[v0,v1,v2],_=>
  have e0:v0=_:=(hr 0 (by simp)).str_inv
  have e1:v1=_:=(hr 1 (by simp)).int_inv
  have e2:v2=_:=(hr 2 (by simp)).int_inv
  subst e0 e1 e2
  refine (Tryz.strconv_ParseInt_10_at64_ok ⟨l.toArray⟩ (by simp [ByteArray.size];omega) v (by simpa using h) w).mono ?_
  rintro e w' ⟨rfl,hw⟩
  refine ⟨_,rfl,fun g D M'=>zjl (.pv (.int _ _)) (.pv .errn),?_⟩
  rcases hw with rfl|⟨t,rfl⟩
  ·exact Below.refl _ _
  ·exact Lib.bytesWorld_below w _ t
theorem zwU (l:List UInt8) (hl:l.length≤100000) (h:∀ v,Lib.parseIntB 64 l≠.ok v):AC Tryz.prog gl 121 [.pv (.str l),.pv (.int .i64 10),.pv (.int .i64 64)] [] (.tup [.junk,.pv (.err false)]) []:=by
 refine AC.ofCalls (ps:=[.str l,.int .i64 10,.int .i64 64]) fun w M vs hvl hr hs hg hx=>?_
 match vs,hvl with
 |[v0,v1,v2],_=>
  have e0:v0=_:=(hr 0 (by simp)).str_inv
  have e1:v1=_:=(hr 1 (by simp)).int_inv
  have e2:v2=_:=(hr 2 (by simp)).int_inv
  subst e0 e1 e2
  have key:∀ {u:Value},Rd M (.err false) u→∃ t v,u=.iface t v:=fun hru=>by
   rcases hru.err_inv with ⟨h,_⟩|⟨_,t,v,h⟩
   ·cases h
   ·exact ⟨t,v,h⟩
  cases hp:Lib.parseIntB 64 l with
  |ok v=>exact absurd hp (h v)
  |range=>
   obtain ⟨u,hu,hru⟩:=hg 11 [.err false] rfl 0 (by simp)
   refine (Tryz.strconv_ParseInt_10_at64_range ⟨l.toArray⟩ (by simp [ByteArray.size];omega) (by simpa using hp) u w (hs _ _ _ hu) (.inr (key hru))).mono ?_
   rintro e w' ⟨N,rfl,_,_,hb⟩
   exact ⟨_,rfl,fun g D M'=>zjl (.junk _) (.pv (.erri _ _)),hb⟩
  |_=>
   obtain ⟨u,hu,hru⟩:=hg 10 [.err false] rfl 0 (by simp)
   refine (Tryz.strconv_ParseInt_10_at64_syntax ⟨l.toArray⟩ (by simp [ByteArray.size];omega) (by simpa using hp) u w (hs _ _ _ hu) (.inr (key hru))).mono ?_
   rintro e w' ⟨N,rfl,_,_,hb⟩
   exact ⟨_,rfl,fun g D M'=>zjl (.junk _) (.pv (.erri _ _)),hb⟩
theorem zih (w:List UInt8) (hl:w.length≤100000):AC Tryz.prog gl 88 [.pv (.str w)] [] (.tup [.pv (.int .i64 (zpF w).1),.pv (.bool (zpF w).2)]) []:=by
 unfold zpF
 split
 ·rename_i v hp
  obtain ⟨h0,h1⟩:=znX w v hp
  have c1:=zzW w hl v hp
  have c2:=zzV v h0 h1
  have hw:IntKind.i64.wrap v=v:=zat v h0 h1
  by_cases h:Lib.itoa v=w
  ·rw [if_pos h]
   rw [h] at c2
   refine zam (fun _=>0) 0 zCA ?_
   (repeat' (first|refine Va (fA2 zCe hw) ?_|(with_reducible first|refine SB.c ?_ ?_<;>intro _|exact zac)|refine CK.d0 zev c1 ?_|refine CK.d0 zll c2 ?_|with_reducible refine zab ?_|omega))
  ·rw [if_neg h]
   refine zam (fun _=>0) 0 zCA ?_
   have h':(Lib.itoa v==w)=false:=by simpa using h
   (repeat' (first|refine Va (fA4 zCe hw h h') ?_|(with_reducible first|refine SB.c ?_ ?_<;>intro _|exact zac)|refine CK.d0 zev c1 ?_|refine CK.d0 zll c2 ?_|with_reducible refine zab ?_|omega))
 ·rename_i hp
  have c1:=zwU w hl (fun v e=>hp v e)
  refine zam (fun _=>0) 0 zCA ?_
  (repeat' (first|refine Va zCe ?_|(with_reducible first|refine SB.c ?_ ?_<;>intro _|exact zac)|refine CK.d0 zev c1 ?_|with_reducible refine zab ?_|omega))
end Go.Proofs.YtfinhhblcdkpgaaGreatDoor
