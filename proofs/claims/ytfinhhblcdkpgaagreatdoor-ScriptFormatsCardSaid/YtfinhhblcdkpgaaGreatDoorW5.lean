/- A part of the walk (Tryz_W4): its theorems have no condition beyond what they state. -/
import Derived.Test.YtfinhhblcdkpgaaGreatDoorW3
import Derived.Test.YtfinhhblcdkpgaaGreatDoorS5
set_option maxRecDepth 100000
set_option maxHeartbeats 64000000
set_option linter.unusedSimpArgs false
set_option linter.unusedVariables false
set_option linter.defProp false
namespace Go.Proofs.YtfinhhblcdkpgaaGreatDoor
open Go Go.Abs Go.RowKit
theorem zhn (nm:List UInt8) (hnm:nm.length≤10) (l:List Sm) (hl:zbx l≤1000000) (hg:zao l=true) (hr:zg2 l=true) (t:List UInt8) (hb:t.length+(hdT nm l).length≤100000000000000) :
  AC Tryz.prog gl 84 [.ref 0 0,.pv (.str nm),.pv (.slice (l.map zah))] (wrO t) (.tup []) (wrQ (t++hdT nm l)):=by
 by_cases h0:l.length=0
 ·have h0':((l.length:Nat):Int)=0:=by omega
  have e:hdT nm l=[]:=by simp [hdT,h0]
  rw [e,List.append_nil]
  refine zg0 (fun _=>2) 5 zDR ?_
  (repeat' (first|refine Va (fA2 zAC h0') ?_|(with_reducible first|refine SB.c ?_ ?_<;>intro _|exact zac)|with_reducible refine zab ?_|omega))
  refine ⟨⟨(.ref 0 0::jl 18 []),[some (.cells [.row 2 t.length]),some .dead,some (.row 1 (t.map zl2)),none,none]⟩,(WMe [0,1,1,3,4] (by simp [kwt]) (by simp [kwt])),?_⟩
  (refine zaJ.mk [0,1,2] ?_ ?_<;>simp [kwr,zAC])
 ·have h0':¬ ((l.length:Nat):Int)=0:=by omega
  have e:hdT nm l=[111,110,32]++(nm++[32,123,10])++lsT 1 l++[125,10]:=by
   unfold hdT
   rw [if_neg h0]
   simp only [List.append_assoc]
  rw [e] at hb ⊢
  simp only [List.length_append,List.length_cons,List.length_nil] at hb
  have c1:=zDk [111,110,32] nm [32,123,10] t (by simp only [List.length_append,List.length_cons,List.length_nil];omega)
  have c2:=zuf l hl hg hr (t++([111,110,32]++(nm++[32,123,10]))) (by simp only [List.length_append,List.length_cons,List.length_nil];omega)
  have c3:=zfF [125,10] (t++([111,110,32]++(nm++[32,123,10]))++lsT 1 l) (by simp only [List.length_append,List.length_cons,List.length_nil];omega)
  have ef:t++([111,110,32]++(nm++[32,123,10]))++lsT 1 l++[125,10]=t++([111,110,32]++(nm++[32,123,10])++lsT 1 l++[125,10]):=by simp only [List.append_assoc]
  rw [ef] at c3
  refine zay (fun _=>2) 5 zDR ?_
  (repeat' (first|refine Va (fA3 @kz zAC h0') ?_|(with_reducible first|refine SB.c ?_ ?_<;>intro _|exact zac)|refine CK.dx [0,1] [2] zav c1 ?_|refine CK.dx [0,2] [3] zeu c2 ?_|refine CK.dx [0,3] [4] zav c3 ?_|with_reducible refine zab ?_|omega))
  (refine zaJ.mk [0,1,4] ?_ ?_<;>simp [kwr,zAC])
abbrev wr0:List (Option AObj):=[some (.cells [.snil])]
theorem zui (p:PgD) (hp:szP p≤1000000) (hc:zcP zao p=0) (hr:rgP p=true) :
  AC Tryz.prog gl 57 [.ref 0 0,pgA p] wr0 (.tup []) (wrO (pgT p)):=by
 obtain ⟨g0,g1,g2,g3,g4,_⟩:=zkv hc
 have hbt:=zmE p hc hp
 unfold rgP at hr
 simp only [Bool.and_eq_true] at hr
 obtain ⟨⟨⟨⟨hrv,r1⟩,r2⟩,r3⟩,r4⟩:=hr
 unfold szP at hp
 have hal:p.vars.length≤1000000:=by omega
 unfold pgT at hbt ⊢
 simp only [List.length_append] at hbt
 have hvl:(vsT p.vars).length≤100000000000000:=by omega
 have c1:=zhn [115,116,97,114,116] (by decide) p.start (by omega) g1 r1 (vsT p.vars) (by omega)
 have c2:=zhn [109,101,115,115,97,103,101] (by decide) p.message (by omega) g2 r2 (vsT p.vars++hdT [115,116,97,114,116] p.start) (by simp only [List.length_append];omega)
 have c3:=zhn [116,105,99,107] (by decide) p.tick (by omega) g3 r3 (vsT p.vars++hdT [115,116,97,114,116] p.start++hdT [109,101,115,115,97,103,101] p.message) (by simp only [List.length_append];omega)
 have c4:=zhn [105,110,112,117,116] (by decide) p.input (by omega) g4 r4 (vsT p.vars++hdT [115,116,97,114,116] p.start++hdT [109,101,115,115,97,103,101] p.message++hdT [116,105,99,107] p.tick) (by simp only [List.length_append];omega)
 unfold pgA
 refine zay (fun d=>if d=3 then 1 else 2) 8 zFi ?_
 (repeat' (first|refine Va zxu ?_|(with_reducible first|refine SB.c ?_ ?_<;>intro _|exact zac)|with_reducible refine zab ?_|omega))
 (refine LW.weak (zbK.nilRowC 0 0 3 1 rfl rfl rfl (by decide)) ?_;simp only [List.set_cons_zero,List.set_cons_succ])
 refine za6 (ι:={q:Nat × List UInt8 // q.1≤p.vars.length∧q.2++vsT (p.vars.drop q.1)=vsT p.vars}) (fun i=>⟨(.ref 0 0::.junk::.junk::.ref 1 0::jl 3 (.pv (.slice (p.vars.map zas))::.pv (.int .i64 p.vars.length)::.pv (.int .i64 i.1.1)::jl 49 [])),[some (.cells [.row 3 i.1.2.length]),some (.cells [.pv (.slice (p.vars.map zas)),.pv (.slice (p.start.map zah)),.pv (.slice (p.message.map zah)),.pv (.slice (p.tick.map zah)),.pv (.slice (p.input.map zah))]),none,some (.row 1 (i.1.2.map zl2)),none,none,none,none]⟩) (fun i=>p.vars.length - i.1.1) ⟨(0,[]),by simp⟩ WFn ?_
 rintro ⟨⟨k,u⟩,hk,hu⟩
 replace hk:k≤p.vars.length:=hk
 replace hu:u++vsT (p.vars.drop k)=vsT p.vars:=hu
 by_cases hlt:k<p.vars.length
 ·have hlt':(k:Int)<p.vars.length:=by omega
  have hget:=zaN zas p.vars k hlt
  have hx:rgV p.vars[k]=true:=List.all_eq_true.1 hrv _ (List.getElem_mem hlt)
  have hvs:vsT (p.vars.drop k)=vaT p.vars[k]++vsT (p.vars.drop (k+1)):=by
   rw [List.drop_eq_getElem_cons hlt];simp only [vsT,List.map_cons,List.flatten_cons]
  rw [hvs] at hu
  have hlen:=congrArg List.length hu
  simp only [List.length_append] at hlen
  generalize p.vars[k]=x at *
  have hw:=zbc k (by omega)
  have hxe:zas x=[.str x.name,.int .i64 x.size,.int .i64 x.init]:=rfl
  unfold rgV ze7 at hx
  simp only [Bool.and_eq_true,decide_eq_true_eq] at hx
  have i1:=zky x.size (by omega) (by omega)
  have i2:=zky x.init (by omega) (by omega)
  rw [zig _ (by omega) (by omega)] at i1 i2
  by_cases hz:x.size=0
  ·by_cases hi:x.init=0
   ·have ev:vaT x=[118,97,114,32]++(x.name++[59,10]):=by
     unfold vaT
     rw [if_neg (by omega),if_neg (by omega)]
     simp only [List.append_assoc]
    rw [ev] at hu hlen
    have c:=zDk [118,97,114,32] x.name [59,10] u (by simp only [List.length_append,List.length_cons,List.length_nil] at hlen ⊢;omega)
    (repeat' (first|refine Va (fA9 @kz zxu hlt' hlt hget hxe hw hz hi) ?_|(with_reducible first|refine SB.c ?_ ?_<;>intro _|exact zac)|refine CK.dx [0,3] [4] zav c ?_|with_reducible refine zab ?_|omega))
    exact ⟨⟨(k+1,u++([118,97,114,32]++(x.name++[59,10]))),by show k+1≤p.vars.length;omega,by show u++([118,97,114,32]++(x.name++[59,10]))++vsT (p.vars.drop (k+1))=vsT p.vars;rw [←hu];simp⟩,(WMe [0,1,2,4,3,5,6,7] (by simp [kwt]) (by simp [kwt])),by show p.vars.length - (k+1)<p.vars.length - k;omega⟩
   ·have ev:vaT x=[118,97,114,32]++(x.name++([32,61,32]++(itT x.init++[59,10]))):=by
     unfold vaT
     rw [if_neg (by omega),if_pos (by omega)]
     simp only [List.append_assoc]
    rw [ev] at hu hlen
    have c:=zDS [118,97,114,32] x.name [32,61,32] (itT x.init) [59,10] u (by simp only [List.length_append,List.length_cons,List.length_nil] at hlen ⊢;omega)
    (repeat' (first|refine Va (fA9 @kz zxu hlt' hlt hget hxe hw hz hi) ?_|(with_reducible first|refine SB.c ?_ ?_<;>intro _|exact zac)|refine CK.d0 zbL i2 ?_|refine CK.dx [0,3] [4] zav c ?_|with_reducible refine zab ?_|omega))
    exact ⟨⟨(k+1,u++([118,97,114,32]++(x.name++([32,61,32]++(itT x.init++[59,10]))))),by show k+1≤p.vars.length;omega,by show u++([118,97,114,32]++(x.name++([32,61,32]++(itT x.init++[59,10]))))++vsT (p.vars.drop (k+1))=vsT p.vars;rw [←hu];simp⟩,(WMe [0,1,2,4,3,5,6,7] (by simp [kwt]) (by simp [kwt])),by show p.vars.length - (k+1)<p.vars.length - k;omega⟩
  ·have ev:vaT x=[97,114,114,97,121,32]++(x.name++([91]++(itT x.size++[93,59,10]))):=by
    unfold vaT
    rw [if_pos (by omega)]
    simp only [List.append_assoc]
   rw [ev] at hu hlen
   have c:=zDS [97,114,114,97,121,32] x.name [91] (itT x.size) [93,59,10] u (by simp only [List.length_append,List.length_cons,List.length_nil] at hlen ⊢;omega)
   (repeat' (first|refine Va (fA8 @kz zxu hlt' hlt hget hxe hw hz) ?_|(with_reducible first|refine SB.c ?_ ?_<;>intro _|exact zac)|refine CK.d0 zbL i1 ?_|refine CK.dx [0,3] [4] zav c ?_|with_reducible refine zab ?_|omega))
   exact ⟨⟨(k+1,u++([97,114,114,97,121,32]++(x.name++([91]++(itT x.size++[93,59,10]))))),by show k+1≤p.vars.length;omega,by show u++([97,114,114,97,121,32]++(x.name++([91]++(itT x.size++[93,59,10]))))++vsT (p.vars.drop (k+1))=vsT p.vars;rw [←hu];simp⟩,(WMe [0,1,2,4,3,5,6,7] (by simp [kwt]) (by simp [kwt])),by show p.vars.length - (k+1)<p.vars.length - k;omega⟩
 ·have hlt':¬ (k:Int)<p.vars.length:=by omega
  rw [List.drop_eq_nil_of_le (by omega)] at hu
  simp only [vsT,List.map_nil,List.flatten_nil,List.append_nil] at hu
  replace hu:u=vsT p.vars:=hu
  subst hu
  (repeat' (first|refine Va (fA3 @kz zxu hlt') ?_|(with_reducible first|refine SB.c ?_ ?_<;>intro _|exact zac)|refine CK.dx [0,3] [4] zhc c1 ?_|refine CK.dx [0,4] [5] zhc c2 ?_|refine CK.dx [0,5] [6] zhc c3 ?_|refine CK.dx [0,6] [7] zhc c4 ?_|with_reducible refine zab ?_|omega))
  (refine zaJ.mk [0,7] ?_ ?_<;>simp [kwr,zxu])
theorem zrI (p:PgD) (hp:szP p≤1000000) (hr:rgP p=true) :
  AC Tryz.prog gl 36 [pgA p] [] (.tup [.pv (.str (ziM p).1),.pv (.int .i64 (ziM p).2)]) []:=by
 have ck:=zoh p (by omega)
 unfold ziM
 by_cases h0:zcP zao p=0
 ·rw [h0] at ck
  rw [if_neg (by simpa using h0)]
  have cp:=zui p hp h0 hr
  have hl:=zmE p h0 hp
  generalize pgT p=t at *
  unfold pgA at ck cp ⊢
  by_cases h1:((t.length:Nat):Int) > 4096
  ·rw [if_pos h1]
   refine zam (fun d=>if d=1 then 0 else 1) 3 zCx ?_
   (repeat' (first|refine Va (fA3 @kz zCc h1) ?_|(with_reducible first|refine SB.c ?_ ?_<;>intro _|exact zac)|refine CK.d0 zeR ck ?_|refine CK.dx [1] [2] znG cp ?_|with_reducible refine zab ?_|omega))
  ·rw [if_neg h1]
   refine zam (fun d=>if d=1 then 0 else 1) 3 zCx ?_
   (repeat' (first|refine Va (fA3 @kz zCc h1) ?_|(with_reducible first|refine SB.c ?_ ?_<;>intro _|exact zac)|refine CK.d0 zeR ck ?_|refine CK.dx [1] [2] znG cp ?_|with_reducible refine zab ?_|omega))
 ·rw [if_pos h0]
  unfold pgA at ck ⊢
  refine zam (fun d=>if d=1 then 0 else 1) 3 zCx ?_
  (repeat' (first|refine Va (fA2 zCc h0) ?_|(with_reducible first|refine SB.c ?_ ?_<;>intro _|exact zac)|refine CK.d0 zeR ck ?_|with_reducible refine zab ?_|omega))
end Go.Proofs.YtfinhhblcdkpgaaGreatDoor
