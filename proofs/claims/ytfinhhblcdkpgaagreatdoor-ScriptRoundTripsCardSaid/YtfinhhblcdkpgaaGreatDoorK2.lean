/- A part of the walk (Tryz_N12): its theorems have no condition beyond what they state. -/
import Derived.Test.YtfinhhblcdkpgaaGreatDoorN10
import Derived.Test.YtfinhhblcdkpgaaGreatDoorLib3
import Derived.Lib.AppendIntMem
import Derived.Test.YtfinhhblcdkpgaaGreatDoorK0
set_option maxRecDepth 100000
set_option maxHeartbeats 64000000
set_option linter.unusedSimpArgs false
set_option linter.unusedVariables false
set_option linter.defProp false
namespace Go.Proofs.YtfinhhblcdkpgaaGreatDoor
open Go Go.Abs Go.RowKit
theorem zwe (w:World) (M:Mem) (hs:∀ b i u,M b i=some u→w.cell? ⟨b,i,none⟩=some u) (hg:GOK ⟨fun _=>none,gl,fun _=>0,0⟩ M)
  (hx : ∀ b cs, gl b = some cs → cs ≠ [] → ∃ vals T l, w.heap[b]? = some (.cells vals T l) ∧ vals.size = cs.length) : Lib.TabIs Tryz.prog w "internal/strconv.uint64pow10" .u64 Lib.pow10Tab := by
 obtain ⟨cs,hcs,hce⟩:∃ cs,gl 4=some cs∧cs=Lib.pow10Tab.map fun z=>PVal.int .u64 z:=⟨_,rfl,by kernel_rfl⟩
 have hlen:cs.length=Lib.pow10Tab.length:=by rw [hce];simp
 obtain ⟨vals,T,l,hh,hsz⟩:=hx 4 cs hcs (by rw [hce];decide +kernel)
 have hgn : Tryz.prog.globalNamed "internal/strconv.uint64pow10" = some 4 := by kernel_rfl
 unfold Lib.TabIs World.var?
 rw [hgn]
 simp only [Option.bind_some,hh,Option.some.injEq]
 apply Array.ext
 ·rw [hsz,hlen];simp
 ·intro i h1 h2
  have hi:i<cs.length:=by omega
  obtain ⟨u,hu,hr⟩:=hg 4 cs hcs i hi
  have hc:=hs _ _ _ hu
  have h3:vals[i]?=some u:=by simpa [World.cell?,hh] using hc
  rw [Array.getElem?_eq_getElem h1] at h3
  have h4:vals[i]=u:=by simpa using h3
  have hi2:i<Lib.pow10Tab.length:=by omega
  have h5:cs.getD i .nilptr=.int .u64 Lib.pow10Tab[i]:=by
   rw [hce];simp [List.getD,hi2]
  rw [h5] at hr
  have h6:=hr.int_inv
  rw [h4,h6]
  simp
theorem zkW (n:Int) (h0:-9223372036854775808≤n) (h1:n≤9223372036854775807):AC Tryz.prog gl 35 [.pv (.int .i64 n)] [] (.pv (.str (Lib.itoa n))) []:=by
 refine AC.ofCalls (ps:=[.int .i64 n]) fun w M vs hl hr hs hg hx=>?_
 match vs,hl with
 |[v0],_=>
  have e0:v0=_:=(hr 0 (by simp)).int_inv
  subst e0
  refine (Tryz.strconv_Itoa n h0 h1 w (zwe w M hs hg hx)).mono ?_
  rintro e w' ⟨rfl,k,os,rfl⟩
  refine ⟨_,rfl,fun g D M'=>zxD _ _ _ _,?_⟩
  exact Lib.below_grow _ w (Nat.le_refl _) k os
theorem zBx (n:Int) (h0:-9223372036854775808≤n) (h1:n≤9223372036854775807):AC Tryz.prog gl 122 [.pv (.int .i64 n),.pv (.int .i64 10)] [] (.pv (.str (Lib.itoa n))) []:=by
 refine AC.ofCalls (ps:=[.int .i64 n,.int .i64 10]) fun w M vs hl hr hs hg hx=>?_
 match vs,hl with
 |[v0,v1],_=>
  have e0:v0=_:=(hr 0 (by simp)).int_inv
  have e1:v1=_:=(hr 1 (by simp)).int_inv
  subst e0 e1
  refine (Tryz.strconv_FormatInt_10 n h0 h1 w (zwe w M hs hg hx)).mono ?_
  rintro e w' ⟨rfl,k,os,rfl⟩
  refine ⟨_,rfl,fun g D M'=>zxD _ _ _ _,?_⟩
  exact Lib.below_grow _ w (Nat.le_refl _) k os
theorem zBy (l:List UInt8) (hl:l.length≤100000) (v:Int) (h:Lib.parseIntB 64 l=.ok v):AC Tryz.prog gl 121 [.pv (.str l),.pv (.int .i64 10),.pv (.int .i64 64)] [] (.tup [.pv (.int .i64 v),.pv (.err true)]) []:=by
 refine AC.ofCalls (ps:=[.str l,.int .i64 10,.int .i64 64]) fun w M vs hvl hr hs hg hx=>?_
 match vs,hvl with
 |[v0,v1,v2],_=>
  have e0:v0=_:=(hr 0 (by simp)).str_inv
  have e1:v1=_:=(hr 1 (by simp)).int_inv
  have e2:v2=_:=(hr 2 (by simp)).int_inv
  subst e0 e1 e2
  refine (Tryz.strconv_ParseInt_10_at64_ok ⟨l.toArray⟩ (by simp [ByteArray.size];omega) v (by simpa using h) w).mono ?_
  rintro e w' ⟨rfl,hw⟩
  refine ⟨_,rfl,fun g D M'=>zjw (.pv (.int _ _)) (.pv .errn),?_⟩
  rcases hw with rfl|⟨t,rfl⟩
  ·exact Below.refl _ _
  ·exact Lib.bytesWorld_below w _ t
theorem zyh (l:List UInt8) (hl:l.length≤100000) (h:∀ v,Lib.parseIntB 64 l≠.ok v):AC Tryz.prog gl 121 [.pv (.str l),.pv (.int .i64 10),.pv (.int .i64 64)] [] (.tup [.junk,.pv (.err false)]) []:=by
 refine AC.ofCalls (ps:=[.str l,.int .i64 10,.int .i64 64]) fun w M vs hvl hr hs hg hx=>?_
 match vs,hvl with
 |[v0,v1,v2],_=>
  have e0:v0=_:=(hr 0 (by simp)).str_inv
  have e1:v1=_:=(hr 1 (by simp)).int_inv
  have e2:v2=_:=(hr 2 (by simp)).int_inv
  subst e0 e1 e2
  have key:∀ {u:Value},Rd M (.err false) u→∃ t v,u=.iface t v:=fun hru=>by
   rcases hru.err_inv with ⟨h,_⟩|⟨_,t,v,h⟩
   ·cases h
   ·exact ⟨t,v,h⟩
  cases hp:Lib.parseIntB 64 l with
  |ok v=>exact absurd hp (h v)
  |range=>
   obtain ⟨u,hu,hru⟩:=hg 11 [.err false] rfl 0 (by simp)
   refine (Tryz.strconv_ParseInt_10_at64_range ⟨l.toArray⟩ (by simp [ByteArray.size];omega) (by simpa using hp) u w (hs _ _ _ hu) (.inr (key hru))).mono ?_
   rintro e w' ⟨N,rfl,_,_,hb⟩
   exact ⟨_,rfl,fun g D M'=>zjw (.junk _) (.pv (.erri _ _)),hb⟩
  |_=>
   obtain ⟨u,hu,hru⟩:=hg 10 [.err false] rfl 0 (by simp)
   refine (Tryz.strconv_ParseInt_10_at64_syntax ⟨l.toArray⟩ (by simp [ByteArray.size];omega) (by simpa using hp) u w (hs _ _ _ hu) (.inr (key hru))).mono ?_
   rintro e w' ⟨N,rfl,_,_,hb⟩
   exact ⟨_,rfl,fun g D M'=>zjw (.junk _) (.pv (.erri _ _)),hb⟩
theorem zin (w:List UInt8) (hl:w.length≤100000):AC Tryz.prog gl 88 [.pv (.str w)] [] (.tup [.pv (.int .i64 (zqw w).1),.pv (.bool (zqw w).2)]) []:=by
 unfold zqw
 split
 ·rename_i v hp
  obtain ⟨h0,h1⟩:=zoH w v hp
  have c1:=zBy w hl v hp
  have c2:=zBx v h0 h1
  have hw:IntKind.i64.wrap v=v:=zaB v h0 h1
  by_cases h:Lib.itoa v=w
  ·rw [if_pos h]
   rw [h] at c2
   refine zaK (fun _=>0) 0 zEg ?_
   (repeat' (first|refine Va (fA2 zDY hw) ?_|(with_reducible first|refine SB.c ?_ ?_<;>intro _|exact zad)|refine CK.d0 zeJ c1 ?_|refine CK.d0 zlN c2 ?_|with_reducible refine zac ?_|omega))
  ·rw [if_neg h]
   refine zaK (fun _=>0) 0 zEg ?_
   have h':(Lib.itoa v==w)=false:=by simpa using h
   (repeat' (first|refine Va (fA4 zDY hw h h') ?_|(with_reducible first|refine SB.c ?_ ?_<;>intro _|exact zad)|refine CK.d0 zeJ c1 ?_|refine CK.d0 zlN c2 ?_|with_reducible refine zac ?_|omega))
 ·rename_i hp
  have c1:=zyh w hl (fun v e=>hp v e)
  refine zaK (fun _=>0) 0 zEg ?_
  (repeat' (first|refine Va zDY ?_|(with_reducible first|refine SB.c ?_ ?_<;>intro _|exact zad)|refine CK.d0 zeJ c1 ?_|with_reducible refine zac ?_|omega))
end Go.Proofs.YtfinhhblcdkpgaaGreatDoor
