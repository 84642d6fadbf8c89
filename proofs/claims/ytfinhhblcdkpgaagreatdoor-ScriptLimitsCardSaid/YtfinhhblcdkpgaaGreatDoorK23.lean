/- A part of the walk (Tryz_K23): its theorems have no condition beyond what they state. -/
import Derived.Test.YtfinhhblcdkpgaaGreatDoorK18
import Derived.Test.YtfinhhblcdkpgaaGreatDoorK14
import Derived.Test.YtfinhhblcdkpgaaGreatDoorS3r
import Derived.Test.YtfinhhblcdkpgaaGreatDoorK16
import Derived.Test.YtfinhhblcdkpgaaGreatDoorLib4
set_option maxRecDepth 100000
set_option maxHeartbeats 64000000
set_option linter.unusedSimpArgs false
set_option linter.unusedVariables false
set_option linter.defProp false
/- The reference's reading of a script. No condition. -/
namespace Go.Proofs.YtfinhhblcdkpgaaGreatDoor
open Go Go.Abs Go.RowKit
def zdC (d:Nat):Nat:=if d=2 then 0 else if d=9 then 1 else if d=14 then 3 else if d=17 then 4 else if d=124 then 5 else if d=19 then 6 else if d=182 then 8 else 9
theorem zbz:zdC 2=0∧zdC 9=1∧zdC 14=3∧zdC 17=4∧zdC 124=5∧zdC 19=6∧zdC 182=8∧zdC 123=9∧zdC 181=9:=by decide
theorem zt2 (s:List UInt8):∃ L:List (List UInt8),(if zfr s then zaj 10 s else zb9 s)=L∧(∀ k,k<(zb9 s).length→L.getD k []=(zb9 s).getD k [])∧L.length=(zb9 s).length+(if zfr s then 1 else 0):=by
 refine ⟨_,rfl,fun k hk=>?_,?_⟩
 ·split
  ·unfold zb9 at hk ⊢
   rw [List.getD_eq_getElem?_getD,List.getD_eq_getElem?_getD,List.getElem?_dropLast]
   simp at hk
   rw [if_pos (by omega)]
  ·rfl
 ·have hp:0<(zaj 10 s).length:=List.length_pos_iff.2 (zbG 10 s)
  unfold zb9
  split<;>simp<;>omega
abbrev cfO (cs:List CdD) (p f:Int):Option AObj:=some (.cells [.row 2 cs.length,.pv (.int .i64 p),.pv (.int .i64 f)])
theorem zrs (s:List UInt8) (hsl:s.length≤4000000000):AC Tryz.prog gl 31 [.pv (.str s)] [] (scA (zhB s)) []:=by
 have hS:=zl2 s
 generalize zhB s=G at *
 by_cases hl:65536<s.length
 ·have hl':(s.length:Int) > 65536:=by omega
  rw [if_pos hl] at hS
  subst hS
  refine zap (zdC) 9 zyU ?_
  repeat' first|refine Va (fA5 zjd hl' @scA.eq_1 @sc0.eq_1 zbz) ?_|(with_reducible first|refine SB.c ?_ ?_<;>intro _|exact zad)|with_reducible refine zac ?_|omega
 rw [if_neg hl] at hS
 have hl':¬ (s.length:Int) > 65536:=by omega
 obtain ⟨b1,b2⟩:=zkZ s
 have cL:=zwo s (by omega)
 obtain ⟨L,hL,hLk,hLn⟩:=zt2 s
 have hLb:∀ k,(L.getD k []).length≤100000:=by
  intro k
  have h1:=zg7 10 s
  by_cases hk:k<L.length
  ·have hm:L[k] ∈ zaj 10 s:=by
    have h2:L[k] ∈ L:=List.getElem_mem hk
    have h3:∀ w ∈ L,w ∈ zaj 10 s:=by
     rw [←hL]
     intro w hw
     split at hw
     ·exact hw
     ·exact List.dropLast_subset _ hw
    exact h3 _ h2
   have:=h1 _ hm
   rw [List.getD_eq_getElem?_getD,List.getElem?_eq_getElem hk]
   simp
   omega
  ·rw [List.getD_eq_getElem?_getD,List.getElem?_eq_none (by omega)]
   simp
 rw [hL] at cL
 clear hL hsl hl
 generalize zb9 s=ls at *
 generalize zfr s=torn at *
 have hsd:∀ k,zkn (ls.drop k)≤1000000:=by
  intro k
  have key:∀ (l:List (List UInt8)) (k:Nat),zkn (l.drop k)≤zkn l:=by
   intro l
   induction l with
   |nil=>intro k;simp
   |cons a r ih=>
    intro k
    cases k with
    |zero=>simp
    |succ k=>have:=ih k;rw [zb5];simp at this ⊢;omega
  have:=key ls k
  omega
 have hgetL:∀ k,k<ls.length→(L.map ze0).getD k []=[.str (ls.getD k [])]:=by
  intro k hk
  have hk2:k<L.length:=by rw [hLn];omega
  rw [zaA ze0 L k hk2]
  have:=hLk k hk
  rw [List.getD_eq_getElem?_getD,List.getElem?_eq_getElem hk2] at this
  simp at this
  simp [ze0,this]
 have hS0:zdM ls torn=if (zcx (ls.getD 0 []) 0).2.2=false then (sc0,1,1)
  else match zca ls.length (ls.drop 1) 2 [] with
  |.bad a e=>(sc0,a,e)
  |.ok cs r a=>if (zbN torn r a []).2.2≠0 then (sc0,(zbN torn r a []).2.1,(zbN torn r a []).2.2)
   else (⟨cs,(zcx (ls.getD 0 []) 0).1,(zcx (ls.getD 0 []) 0).2.1,(zbN torn r a []).1⟩,0,0):=rfl
 rw [hS0] at hS
 clear hS0
 have hLn0:torn=false→L.length=ls.length:=fun h=>by rw [hLn,h];simp
 have hLn1:torn=true→L.length=ls.length+1:=fun h=>by rw [hLn,h];simp
 have hLn2:ls.length≤L.length:=by rw [hLn];omega
 clear hLn
 have hwl:=zaQ ls.length (by omega)
 have hgood:torn=true→IntKind.i64.wrap (((ls.length+1:Nat):Int) - 1)=ls.length:=fun _=>by rw [zaS _ (by omega) (by omega)];omega
 obtain ⟨e1,e2⟩:=zkQ (ls.getD 0 []) 0
 rw [e1] at hS
 by_cases h0:0<ls.length
 rotate_left
 ·have hls:ls=[]:=List.eq_nil_of_length_eq_zero (by omega)
  subst hls
  have:(zd8 (([]:List (List UInt8)).getD 0 [])).2.2=false:=by decide
  rw [this,if_pos rfl] at hS
  subst hS
  cases torn
  ·have hLn':L.length=0:=hLn0 rfl
   refine zap (zdC) 9 zyU ?_
   repeat' first|refine Va (fA6 zjd hl' hLn' @scA.eq_1 @sc0.eq_1 zbz) ?_|(with_reducible first|refine SB.c ?_ ?_<;>intro _|exact zad)|refine CK.d0 zfE cL ?_|with_reducible refine zac ?_|omega
  ·have hLn':L.length=0+1:=hLn1 rfl
   have w0:IntKind.i64.wrap 0=0:=by decide
   refine zap (zdC) 9 zyU ?_
   repeat' first|refine Va (fA7 zjd hl' hLn' w0 @scA.eq_1 @sc0.eq_1 zbz) ?_|(with_reducible first|refine SB.c ?_ ?_<;>intro _|exact zad)|refine CK.d0 zfE cL ?_|with_reducible refine zac ?_|omega
 have h0':(ls.length:Int) > 0:=by omega
 have h0L:0<L.length:=by omega
 have hg0:=hgetL 0 h0
 have hln0:(ls.getD 0 []).length≤100000:=by rw [←hLk 0 h0];exact hLb 0
 have cH:=zzD (ls.getD 0 []) hln0
 cases hh:(zd8 (ls.getD 0 [])).2.2
 ·rw [hh,if_pos rfl] at hS
  subst hS
  generalize ls.getD 0 []=l0 at *
  rw [hh] at cH
  cases torn
  ·have hLn':=hLn0 rfl
   refine zap (zdC) 9 zyU ?_
   repeat' first|refine Va (fA9 zjd hl' hLn' h0 h0' hg0 @scA.eq_1 @sc0.eq_1 zbz) ?_|(with_reducible first|refine SB.c ?_ ?_<;>intro _|exact zad)|refine CK.d0 zfE cL ?_|refine CK.d0 zie cH ?_|with_reducible refine zac ?_|omega
  ·have hLn':=hLn1 rfl
   have hgood':=hgood rfl
   have h0s:0<ls.length+1:=by omega
   refine zap (zdC) 9 zyU ?_
   repeat' first|refine Va (zfA zjd hl' hLn' hgood' h0 h0s h0' hg0 @scA.eq_1 @sc0.eq_1 zbz) ?_|(with_reducible first|refine SB.c ?_ ?_<;>intro _|exact zad)|refine CK.d0 zfE cL ?_|refine CK.d0 zie cH ?_|with_reducible refine zac ?_|omega
 rw [hh,if_neg (by simp),e2 hh] at hS
 clear e1 e2
 generalize ls.getD 0 []=l0 at *
 rw [hh] at cH
 generalize zd8 l0=H at *
 generalize hR:zca ls.length (ls.drop 1) 2 []=R at hS
 cases torn
 case' false=>
  have hLn':=hLn0 rfl
  refine zap (zdC) 9 zyU ?_
  repeat' first|refine Va (fA7 zjd hl' hLn' h0 h0' hg0 zbz) ?_|(with_reducible first|refine SB.c ?_ ?_<;>intro _|exact zad)|refine CK.d0 zfE cL ?_|refine CK.d0 zie cH ?_|with_reducible refine zac ?_|omega
 case' true=>
  have hLn':=hLn1 rfl
  have hgood':=hgood rfl
  have h0s:0<ls.length+1:=by omega
  refine zap (zdC) 9 zyU ?_
  repeat' first|refine Va (fA9 zjd hl' hLn' hgood' h0 h0s h0' hg0 zbz) ?_|(with_reducible first|refine SB.c ?_ ?_<;>intro _|exact zad)|refine CK.d0 zfE cL ?_|refine CK.d0 zie cH ?_|with_reducible refine zac ?_|omega
 all_goals (
  clear cL cH hLn0 hLn1 hgood
  (refine LW.weak (za0.nilRowC 1 0 2 5 rfl rfl rfl (by decide)) ?_;simp only [List.set_cons_zero,List.set_cons_succ])
  refine zaI (ι:=RqI ls R) (fun i=>⟨(.junk::.junk::.ref 0 0::jl 3 (.pv (.slice (L.map ze0))::.junk::.pv (.int .i64 ls.length)::.ref 1 0::.junk::.pv (.int .i64 i.k)::jl 173 [])),[some (.cells [.snil,.pv (.int .i64 0),.pv (.int .i64 0)]),cfO i.cs H.1 H.2.1,some (.row 5 (i.cs.map zgr)),none,none,none,none,none,none]⟩) (fun i=>ls.length - i.k) ⟨1,[],ls.length,by omega,by omega,by omega,by simp,hR⟩ WFn ?_
  intro i
  have hik:=i.hk
  have hcs5:=i.hcs
  have hw:=zaQ i.k (by omega)
  by_cases hlt:i.k<ls.length
  ·have hlt':(i.k:Int)<ls.length:=by omega
   have hlt2:¬ (i.k:Int)≥ls.length:=by omega
   have hltL:i.k<L.length:=by omega
   have hgk:=hgetL i.k hlt
   by_cases hp:ls.getD i.k []=[112,114,111,99,101,115,115]
   ·rw [hp] at hgk
    by_cases h5:5≤i.cs.length
    ·have h5':(i.cs.length:Int)≥5:=by omega
     rw [i.many hlt hp h5] at hS
     dsimp only at hS
     subst hS
     repeat' first|refine Va (zj4 zjd hlt' hlt hltL hgk h5' hw @scA.eq_1 @sc0.eq_1 zbz) ?_|(with_reducible first|refine SB.c ?_ ?_<;>intro _|exact zad)|with_reducible refine zac ?_|omega
    ·have h5':¬ (i.cs.length:Int)≥5:=by omega
     repeat' first|refine Va (fA8 zjd hlt' hlt hltL hgk h5' hw zbz) ?_|(with_reducible first|refine SB.c ?_ ?_<;>intro _|exact zad)|with_reducible refine zac ?_|omega
     refine zaI (ι:=PcI ls (i.k+1)) (fun j=>⟨(.junk::.junk::.ref 0 0::jl 3 (.pv (.slice (L.map ze0))::.junk::.pv (.int .i64 ls.length)::.ref 1 0::.junk::.pv (.int .i64 j.k)::.pv (.int .i64 i.k)::.pv (.str j.b)::jl 171 [])),[some (.cells [.snil,.pv (.int .i64 0),.pv (.int .i64 0)]),cfO i.cs H.1 H.2.1,some (.row 5 (i.cs.map zgr)),none,none,none,none,none,none]⟩) (fun j=>ls.length - j.k) ⟨i.k+1,[],hlt,rfl,by simpa using hsd _⟩ WFn ?_
     intro j
     have hjk:=j.hk
     have hwj:=zaQ j.k (by omega)
     by_cases hjt:j.k<ls.length
     ·have hjt':(j.k:Int)<ls.length:=by omega
      have hjt2:¬ (j.k:Int)≥ls.length:=by omega
      have hjtL:j.k<L.length:=by omega
      have hgj:=hgetL j.k hjt
      have hbn:=j.hb
      rw [j.line hjt,zb5] at hbn
      by_cases he:ls.getD j.k []=[101,110,100]
      ·have hfin:=j.fin hjt he
       rw [he] at hgj
       have cP:=zt1 j.b
       have hsz:=zox j.b
       have hbf:zd7 j.b=if (zgq j.b).2.2≠0 then (cd0,(zgq j.b).2.2) else zbp (zgq j.b).1:=rfl
       have cR:=zoO (zgq j.b).1 hsz
       rw [←zhQ] at cR
       unfold rP at cP
       unfold pgA at cP cR
       unfold cdA at cR
       by_cases hp0:(zgq j.b).2.2=0
       ·rw [if_neg (by simpa using hp0)] at hbf
        have hp0':((zgq j.b).2.2 != 0)=false:=by simpa using hp0
        by_cases hr0:(zbp (zgq j.b).1).2=0
        ·have hr0':((zbp (zgq j.b).1).2 != 0)=false:=by simpa using hr0
         obtain ⟨nx,x1,x2⟩:∃ nx:RqI ls R,nx.k=j.k+1∧nx.cs=i.cs++[(zbp (zgq j.b).1).1]:=⟨i.next hlt hp h5 hfin (by rw [hbf];exact hr0),by show ls.length - (ls.drop (j.k+1)).length=j.k+1;simp;omega,by show i.cs++[(zd7 j.b).1]=_;rw [hbf]⟩
         generalize zbp (zgq j.b).1=rr at *
         generalize zgq j.b=pr at *
         have hrm:=zc8 (i.cs.length+1) 120 (by omega)
         have hcl:=zcK _ _ _ _ hfin
         simp only [List.length_drop] at hcl
         have hjw:ls.length - (j.k+1)<ls.length - i.k:=by omega
         repeat' first|refine Va (zfA zjd hjt' hjt hjt2 hjtL hgj hp0' hr0' hrm hwj zbz) ?_|(with_reducible first|refine SB.c ?_ ?_<;>intro _|exact zad)|refine CK.d0 zlA cP ?_|refine CK.d0 zpo cR ?_|with_reducible refine zac ?_|omega
         exact ⟨nx,(WTe [0,1,5,3,4,2,6,7,8] (by simp [kwt,x1,x2,zgr]) (by simp [kwt,x1,x2,zgr])),by show ls.length - nx.k<_;rw [x1];exact hjw⟩
        ·have hr0':((zbp (zgq j.b).1).2 != 0)=true:=by simpa using hr0
         rw [i.body hlt hp h5 hfin (by rw [hbf];exact hr0),hbf] at hS
         dsimp only at hS
         subst hS
         generalize zbp (zgq j.b).1=rr at *
         generalize zgq j.b=pr at *
         repeat' first|refine Va (zkA zjd hjt' hjt hjt2 hjtL hgj hp0' hr0' hw @scA.eq_1 @sc0.eq_1 zbz) ?_|(with_reducible first|refine SB.c ?_ ?_<;>intro _|exact zad)|refine CK.d0 zlA cP ?_|refine CK.d0 zpo cR ?_|with_reducible refine zac ?_|omega
       ·have hp0':((zgq j.b).2.2 != 0)=true:=by simpa using hp0
        rw [if_pos (by simpa using hp0)] at hbf
        rw [i.body hlt hp h5 hfin (by rw [hbf];exact hp0),hbf] at hS
        dsimp only at hS
        subst hS
        generalize zgq j.b=pr at *
        repeat' first|refine Va (zfA zjd hjt' hjt hjt2 hjtL hgj hp0' hw @scA.eq_1 @sc0.eq_1 zbz) ?_|(with_reducible first|refine SB.c ?_ ?_<;>intro _|exact zad)|refine CK.d0 zlA cP ?_|with_reducible refine zac ?_|omega
      ·have he':(ls.getD j.k []==[101,110,100])=false:=by simpa using he
       obtain ⟨nx,x1,x2⟩:∃ nx:PcI ls (i.k+1),nx.k=j.k+1∧nx.b=j.b++(ls.getD j.k []++[10]):=⟨j.next hjt he,rfl,rfl⟩
       repeat' first|refine Va (zfA zjd hjt' hjt hjtL hgj he' hwj @List.length_append.{0} @List.length_cons.{0} @List.length_nil.{0} zbz) ?_|(with_reducible first|refine SB.c ?_ ?_<;>intro _|exact zad)|with_reducible refine zac ?_|omega
       exact ⟨nx,(WFe (by simp [kwf,x1,x2]) (by simp [kwf,x1,x2])),by show ls.length - nx.k<_;rw [x1];omega⟩
     ·have hjt':¬ (j.k:Int)<ls.length:=by omega
      have hjt2:(j.k:Int)≥ls.length:=by omega
      rw [i.none hlt hp h5 (j.out hjt)] at hS
      dsimp only at hS
      subst hS
      repeat' first|refine Va (fA7 zjd hjt' hjt2 hwl @scA.eq_1 @sc0.eq_1 zbz) ?_|(with_reducible first|refine SB.c ?_ ?_<;>intro _|exact zad)|with_reducible refine zac ?_|omega
   ·have hp':(ls.getD i.k []==[112,114,111,99,101,115,115])=false:=by simpa using hp
    by_cases hs:ls.getD i.k []=[115,116,101,112,115]∧i.cs≠[]
    ·obtain ⟨hs,hcs⟩:=hs
     have hsp:(([115,116,101,112,115]:List UInt8)==[112,114,111,99,101,115,115])=false:=by decide
     rw [hs] at hgk
     have hc0:((i.cs.length:Int)==0)=false:=by simp;exact hcs
     rw [i.steps hlt hs hcs] at hS
     dsimp only at hS
     generalize hT:zbN _ (ls.drop (i.k+1)) (((i.k+1:Nat):Int)+1) []=T at hS
     repeat' first|refine Va (zj4 zjd hlt' hlt hlt2 hltL hgk hsp hc0 hw zbz) ?_|(with_reducible first|refine SB.c ?_ ?_<;>intro _|exact zad)|with_reducible refine zac ?_|omega
     (refine LW.weak (za0.nilRow 18 7 4 rfl rfl (by decide)) ?_;simp only [List.set_cons_zero,List.set_cons_succ])
     generalize i.cs=cs at *
     refine zaI (ι:=RsI ls _ T) (fun m=>⟨(.junk::.junk::.ref 0 0::jl 3 (.pv (.slice (L.map ze0))::.junk::.pv (.int .i64 ls.length)::.ref 1 0::.junk::.pv (.int .i64 m.k)::jl 6 (.row 7 m.xs.length::jl 166 []))),[some (.cells [.snil,.pv (.int .i64 0),.pv (.int .i64 0)]),cfO cs H.1 H.2.1,some (.row 5 (cs.map zgr)),none,none,none,none,some (.row 4 (m.xs.map zcw)),none]⟩) (fun m=>ls.length - m.k) ⟨i.k+1,[],hlt,by simp,hT⟩ WFn ?_
     intro m
     have hmk:=m.hk
     have hwm:=zaQ m.k (by omega)
     by_cases hmt:m.k<ls.length
     ·have hmt1:(m.k:Int)<((ls.length+1:Nat):Int):=by omega
      have hmt':(m.k:Int)<ls.length:=by omega
      have hmt2:¬ (m.k:Int)≥ls.length:=by omega
      have hmtL:m.k<L.length:=by omega
      have hgm:=hgetL m.k hmt
      have hlm:(ls.getD m.k []).length≤100000:=by rw [←hLk m.k hmt];exact hLb m.k
      have cS:=zp1 (ls.getD m.k []) hlm
      cases hx:zf0 (ls.getD m.k []) with
      |none=>
       have hg:zcG (ls.getD m.k [])=(st0,false):=by unfold zcG;rw [hx]
       rw [hg] at cS
       unfold stA at cS
       rw [m.none hmt hx,if_pos (show (1:Int)≠0 by decide)] at hS
       dsimp only at hS
       subst hS
       repeat' first|refine Va (zfA zjd hLn' hmt1 hmt' hmt hmtL hgm hwm @scA.eq_1 @sc0.eq_1 zbz) ?_|(with_reducible first|refine SB.c ?_ ?_<;>intro _|exact zad)|refine CK.d0 zif cS ?_|with_reducible refine zac ?_|omega
      |some x=>
       have hg:zcG (ls.getD m.k [])=(x,true):=by unfold zcG;rw [hx]
       rw [hg] at cS
       unfold stA at cS
       by_cases h4:400≤m.xs.length
       ·have h4':(m.xs.length:Int)≥400:=by omega
        rw [m.many hmt hx h4,if_pos (show (4:Int)≠0 by decide)] at hS
        dsimp only at hS
        subst hS
        repeat' first|refine Va (zru zjd hLn' hmt1 hmt' hmt hmt2 hmtL hgm hwm h4' @scA.eq_1 @sc0.eq_1 zbz) ?_|(with_reducible first|refine SB.c ?_ ?_<;>intro _|exact zad)|refine CK.d0 zif cS ?_|with_reducible refine zac ?_|omega
       ·have h4':¬ (m.xs.length:Int)≥400:=by omega
        obtain ⟨nx,x1,x2⟩:∃ nx:RsI ls _ T,nx.k=m.k+1∧nx.xs=m.xs++[x]:=⟨m.next hmt hx h4,rfl,rfl⟩
        have hrm:=zc8 (m.xs.length+1) 32 (by omega)
        repeat' first|refine Va (zkA zjd hLn' hmt1 hmt' hmt hmt2 hmtL hgm hwm h4' hrm zbz) ?_|(with_reducible first|refine SB.c ?_ ?_<;>intro _|exact zad)|refine CK.d0 zif cS ?_|with_reducible refine zac ?_|omega
        exact ⟨nx,(WTe [0,1,2,3,4,5,6,8,7] (by simp [kwt,x1,x2,zcw]) (by simp [kwt,x1,x2,zcw])),by show ls.length - nx.k<_;rw [x1];omega⟩
     ·have hmt':¬ (m.k:Int)<ls.length:=by omega
      have hmke:m.k=ls.length:=by omega
      first
      |have hf:=m.fin hmt rfl
       rw [hf,if_neg (show ¬ (0:Int)≠0 by decide)] at hS
       dsimp only at hS
       subst hS
       repeat' first|refine Va (fA5 zjd hLn' hmt' @scA.eq_1 zbz) ?_|(with_reducible first|refine SB.c ?_ ?_<;>intro _|exact zad)|with_reducible refine zac ?_|omega
       all_goals rfl
      |have hf:=m.cut hmt rfl
       rw [hf,if_pos (show (1:Int)≠0 by decide)] at hS
       dsimp only at hS
       subst hS
       have hmt1:(m.k:Int)<((ls.length+1:Nat):Int):=by omega
       have hmt2:(m.k:Int)≥ls.length:=by omega
       have hmtL:m.k<ls.length+1:=by omega
       have hgm:(L.map ze0).getD m.k []=[.str (L.getD m.k [])]:=by
        rw [zaA ze0 L m.k (by omega),List.getD_eq_getElem?_getD,List.getElem?_eq_getElem (by omega)]
        rfl
       have cS:=zp1 (L.getD m.k []) (hLb m.k)
       generalize zcG (L.getD m.k [])=g at cS
       unfold stA at cS
       repeat' first|refine Va (zfA zjd hLn' hmt1 hmt' hmt2 hmtL hgm hwm @scA.eq_1 @sc0.eq_1 zbz) ?_|(with_reducible first|refine SB.c ?_ ?_<;>intro _|exact zad)|refine CK.d0 zif cS ?_|with_reducible refine zac ?_|omega
    ·have hor:ls.getD i.k []≠[115,116,101,112,115]∨i.cs=[]:=by
      by_cases h1:ls.getD i.k []=[115,116,101,112,115]
      ·right
       by_cases h2:i.cs=[]
       ·exact h2
       ·exact absurd ⟨h1,h2⟩ hs
      ·exact .inl h1
     rw [i.bad hlt hp hor] at hS
     dsimp only at hS
     subst hS
     by_cases h1:ls.getD i.k []=[115,116,101,112,115]
     ·have h1':(ls.getD i.k []==[115,116,101,112,115])=true:=by simpa using h1
      have h2:i.cs=[]:=by
       rcases hor with h|h
       ·exact absurd h1 h
       ·exact h
      repeat' first|refine Va (zru zjd hlt' hlt hlt2 hltL hgk hp' h1' h2 hw @scA.eq_1 @sc0.eq_1 zbz) ?_|(with_reducible first|refine SB.c ?_ ?_<;>intro _|exact zad)|with_reducible refine zac ?_|omega
     ·have h1':(ls.getD i.k []==[115,116,101,112,115])=false:=by simpa using h1
      repeat' first|refine Va (zkA zjd hlt' hlt hlt2 hltL hgk hp' h1' hw @scA.eq_1 @sc0.eq_1 zbz) ?_|(with_reducible first|refine SB.c ?_ ?_<;>intro _|exact zad)|with_reducible refine zac ?_|omega
  ·have hlt':¬ (i.k:Int)<ls.length:=by omega
   have hlt2:(i.k:Int)≥ls.length:=by omega
   rw [i.out hlt] at hS
   dsimp only at hS
   subst hS
   (repeat' (first|refine Va (fA7 zjd hlt' hlt2 hw @scA.eq_1 @sc0.eq_1 zbz) ?_|(with_reducible first|refine SB.c ?_ ?_<;>intro _|exact zad)|with_reducible refine zac ?_|omega)))
end Go.Proofs.YtfinhhblcdkpgaaGreatDoor
