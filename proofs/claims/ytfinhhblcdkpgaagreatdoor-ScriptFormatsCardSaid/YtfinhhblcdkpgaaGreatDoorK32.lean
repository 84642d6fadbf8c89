/- The text of any programs and steps, or the error: the law's walk. No condition. -/
import Derived.Test.YtfinhhblcdkpgaaGreatDoorK19
import Derived.Test.YtfinhhblcdkpgaaGreatDoorK21
import Derived.Test.YtfinhhblcdkpgaaGreatDoorK24
import Derived.Test.YtfinhhblcdkpgaaGreatDoorK31
import Derived.Test.YtfinhhblcdkpgaaGreatDoorLib3
set_option maxRecDepth 100000
set_option maxHeartbeats 64000000
set_option linter.unusedSimpArgs false
set_option linter.unusedVariables false
set_option linter.defProp false
namespace Go.Proofs.YtfinhhblcdkpgaaGreatDoor
open Go Go.Abs Go.RowKit
theorem ziJ {α:Type} (f:α→List PVal) (l:List α) (i:Nat) (h:i<l.length):(l.map f).getD i []=f l[i]:=by simp [List.getD,h]
theorem zow {α:Type} (f:α→List PVal) (l:List α) (i:Nat) (h:¬ i<l.length):(l.map f).getD i []=[]:=by simp [List.getD,Nat.le_of_not_lt h]
theorem zfb.maps {α:Type} (f g:α→List PVal) (l:List α) (h:∀ x,(f x).length=(g x).length∧∀ j,zlZ ((f x).getD j .nilptr) ((g x).getD j .nilptr)):zfb (l.map f) (l.map g):=by
 refine ⟨by simp,fun i=>?_⟩
 unfold zba
 by_cases hi:i<l.length
 ·rw [ziJ f l i hi,ziJ g l i hi];exact h _
 ·rw [zow f l i hi,zow g l i hi];exact ⟨rfl,fun _=>zlZ.rfl⟩
theorem zAc (p:PgD):(zc1 p).length=(zd3 p).length∧∀ j,zlZ ((zc1 p).getD j .nilptr) ((zd3 p).getD j .nilptr):=by
 refine ⟨rfl,fun j=>?_⟩
 match j with
 |0=>exact zlZ.xsl _
 |1=>exact zlZ.rfl
 |2=>exact zlZ.rfl
 |3=>exact zlZ.rfl
 |4=>exact zlZ.rfl
 |j+5=>exact zlZ.rfl
theorem zfb.cons {x y:List PVal} {xs ys:List (List PVal)} (h:x.length=y.length∧∀ j,zlZ (x.getD j .nilptr) (y.getD j .nilptr)) (r:zfb xs ys):zfb (x::xs) (y::ys):=
 ⟨by simp [r.1],fun i=>by
  cases i with
  |zero=>exact h
  |succ i=>exact r.2 i⟩
theorem zpy {X:List (List PVal)} {ps:List PgD} (hX:zfb X (ps.map zd3)) (p f:Int) (m:List StD) (hp:∀ p ∈ ps,szP p≤1000000∧rgP p=true) (hf:-9223372036854775808≤f∧f≤9223372036854775807) (hm:∀ x ∈ m,zkS x=true) :
  AC Tryz.prog gl 19 [.row 0 X.length,.pv (.int .i64 p),.pv (.int .i64 f),.row 1 (m.map za7).length] [some (.row 5 X),some (.row 4 (m.map za7))] (.tup [.pv (.str (zaI ps p f m).1),.pv (.int .i64 (zaI ps p f m).2)]) [some (.row 5 X),some (.row 4 (m.map za7))] ∧
  AC Tryz.prog gl 10 [.row 0 X.length,.pv (.int .i64 p),.pv (.int .i64 f),.row 1 (m.map za7).length] [some (.row 5 X),some (.row 4 (m.map za7))] (.tup [.pv (.str (zaI ps p f m).1),.pv (.int .i64 (zaI ps p f m).2)]) [some (.row 5 X),some (.row 4 (m.map za7))]:=
 ⟨AC.keep (rows:=[(5,X),(4,m.map za7)]) (.row 0 5 X _ rfl hX (.pv _ (.pv _ (.row 1 4 _ _ rfl .rfl .nil)))) (ziI.strInt _ _ _) (zjD ps p f m hp hf hm),
 AC.keep (rows:=[(5,X),(4,m.map za7)]) (.row 0 5 X _ rfl hX (.pv _ (.pv _ (.row 1 4 _ _ rfl .rfl .nil)))) (ziI.strInt _ _ _) (zjI ps p f m hp hf hm)⟩
theorem zjJ {X:List (List PVal)} {ps:List PgD} (hX:zfb X (ps.map zd3)) (p f:Int) (m:List StD) (hp:∀ p ∈ ps,szP p≤1000000∧rgP p=true) (hf:-9223372036854775808≤f∧f≤9223372036854775807) (hm:∀ x ∈ m,zkS x=true) :
  AC Tryz.prog gl 19 [.row 0 X.length,.pv (.int .i64 p),.pv (.int .i64 f),.pv (.slice (m.map za7))] [some (.row 5 X)] (.tup [.pv (.str (zaI ps p f m).1),.pv (.int .i64 (zaI ps p f m).2)]) [some (.row 5 X)] ∧
  AC Tryz.prog gl 10 [.row 0 X.length,.pv (.int .i64 p),.pv (.int .i64 f),.pv (.slice (m.map za7))] [some (.row 5 X)] (.tup [.pv (.str (zaI ps p f m).1),.pv (.int .i64 (zaI ps p f m).2)]) [some (.row 5 X)]:=
 ⟨AC.keep (rows:=[(5,X)]) (.row 0 5 X _ rfl hX (.pv _ (.pv _ (.pv _ .nil)))) (ziI.strInt _ _ _) (zjD ps p f m hp hf hm),
 AC.keep (rows:=[(5,X)]) (.row 0 5 X _ rfl hX (.pv _ (.pv _ (.pv _ .nil)))) (ziI.strInt _ _ _) (zjI ps p f m hp hf hm)⟩
theorem zuB (m:List StD) (i:Nat) (h:i<m.length) (k p q v:Int):zb0 (m.map za7) i 0 [.int .i64 k,.int .i64 p,.int .i64 q,.int .i64 v]=(m.set i ⟨k,p,q,v⟩).map za7:=by
 unfold zb0
 rw [ziJ za7 m i h,List.map_set]
 rfl
theorem zuC (p:PgD) (r:List PgD) (v:VarD):zfb (zb0 ((p::r).map zc1) 0 0 [.slice (p.vars.map zas++[zas v])]) ((zov p v::r).map zd3):=by
 have e:zb0 ((p::r).map zc1) 0 0 [.slice (p.vars.map zas++[zas v])]=[.slice (p.vars.map zas++[zas v]),.slice (p.start.map zah),.slice (p.message.map zah),.slice (p.tick.map zah),.slice (p.input.map zah)]::r.map zc1:=rfl
 rw [e]
 refine zfb.cons ?_ (zfb.maps zc1 zd3 r zAc)
 have e2:zd3 (zov p v)=[.slice (p.vars.map zas++[zas v]),.slice (p.start.map zah),.slice (p.message.map zah),.slice (p.tick.map zah),.slice (p.input.map zah)]:=by simp [zd3,zov]
 rw [e2]
 exact ⟨rfl,fun _=>zlZ.rfl⟩
theorem zg4 (codes:List UInt8) (protocol faults:Int) (l:List StD) (hf:-9223372036854775808≤faults∧faults≤9223372036854775807) (hl:∀ x ∈ l,zkS x=true) :
  AC Tryz.prog gl 5 [.pv (.slice (codes.map zl5)),.pv (.int .i64 protocol),.pv (.int .i64 faults),.pv (.slice (l.map za7))] [] (.pv (.bool true)) []:=by
 by_cases h60:(l.length:Int) > 60
 ·refine zam (fun d=>if d=34 then 0 else 3) 4 fi5 ?_
  (repeat' (first|refine Va (fA2 tq5 h60) ?_|(with_reducible first|refine SB.c ?_ ?_<;>intro _|exact zac)|refine CK.d0 zfq zd5 ?_|with_reducible refine zab ?_|omega))
 have cD:=zuz codes
 have hxs:(codes.take 300).length≤1000:=by simp;omega
 have ok:=zuy (codes.take 300)
 have hsz:=zuA (codes.take 300)
 generalize codes.take 300=xs at *
 generalize zg3 xs=D at *
 obtain ⟨ps,pr,fa,m,a0⟩:=D
 obtain ⟨_,h1,h3,q1,q8,hfa,hm,h14,ha⟩:=ok
 dsimp only at *
 match ps,h1 with
 |p::r,h1=>
 have hvl:p.vars.length≤100000:=by have:=(hsz p (by simp)).1;unfold szP at this;omega
 have hva:((p.vars.map zas).all fun y=>y.length==3)=true:=by simp [zas]
 have hrm:=zej (p.vars.length+1) 32 (by omega)
 have hX0:=zfb.maps zc1 zd3 (p::r) zAc
 have hset:=zuC p r
 have hpc:zba ((p::r).map zc1) 0 0=.xsl (p.vars.map zas):=rfl
 have hXl:((p::r).map zc1).length=(p::r).length:=by simp
 have hz:∀ x ∈ p::r,szP x≤1000000∧rgP x=true:=fun x hx=>by have:=hsz x hx;exact ⟨by omega,this.2⟩
 have hzv:∀ v:VarD,rgV v=true→∀ x ∈ zov p v::r,szP x≤1000000∧rgP x=true:=fun v hv x hx=>by
  rcases List.mem_cons.1 hx with rfl|hx
  ·exact zxm (hsz p (by simp)) hv
  ·exact hz x (by simp [hx])
 rw [←hXl] at cD
 have hXp:0<((p::r).map zc1).length:=by simp
 generalize ((p::r).map zc1)=X0 at *
 have hm':∀ x ∈ m,zkS x=true:=fun x hx=>(hm x hx).1
 have hlm:¬ (l.length:Int) > 60:=h60
 have c4:=zaT xs a0 4 (by omega) (by omega) (by omega)
 have l4:=zaG xs a0 4 ha
 generalize nxt xs a0 4=N4 at *
 by_cases hm0:¬ (m.length:Int) > 0
 ·have hln:m.length=m.length:=rfl
  have c6:=zaT xs a0 6 (by omega) (by omega) (by omega)
  have l6:=zaG xs a0 6 ha
  generalize nxt xs a0 6=N6 at *
  by_cases h65:N6.1=5
  ·have h65':(N6.1==5)=true:=by simpa using h65
   have cM:=zm6 xs hxs N6.2 l6
   have lM:=zkr xs N6.2 l6
   generalize zlB xs N6.2=Q at *
   have c3:=zaT xs Q.2 3 (by omega) (by omega) (by omega)
   have n3:=zaM xs Q.2 3 (by omega)
   generalize nxt xs Q.2 3=W at *
   have hv:rgV ⟨Q.1,W.1,0⟩=true:=by simp only [rgV,zc9 W.1 n3.1 (by omega),Bool.true_and];decide
   have hX:=hset ⟨Q.1,W.1,0⟩
   have ev:zas ⟨Q.1,W.1,0⟩=[.str Q.1,.int .i64 W.1,.int .i64 0]:=rfl
   rw [ev] at hX
   have hXX:(zb0 X0 0 0 [.slice (p.vars.map zas++[[.str Q.1,.int .i64 W.1,.int .i64 0]])]).length=X0.length:=by simp [zb0]
   generalize hXe:zb0 X0 0 0 [.slice (p.vars.map zas++[[.str Q.1,.int .i64 W.1,.int .i64 0]])]=X at *
   have A:=zpy hX pr fa m (hzv _ hv) hfa hm'
   have B:=zjJ hX protocol faults l (hzv _ hv) hf hl
   generalize zaI (zov p ⟨Q.1,W.1,0⟩::r) pr fa m=R at *
   generalize zaI (zov p ⟨Q.1,W.1,0⟩::r) protocol faults l=S at *
   rw [hXX,List.length_map,hln] at A
   rw [hXX] at B
   refine zam (fun _=>3) 4 fi5 ?_
   (repeat' (first|refine Va (zpB @kz tq5 hlm hm0 h65' hpc hva hrm hXe hXp) ?_|(with_reducible first|refine SB.c ?_ ?_<;>intro _|exact zac)|refine CK.d0 zfq zd5 ?_|refine CK.dx [] [0,1,2] zgt cD ?_|refine dC1 zae c6 ?_|refine dC1 zke cM ?_|refine dC1 zae c3 ?_|refine CK.dx [1,2] [] zb9 (A.1) ?_|refine CK.dx [1,2] [] zb8 (A.2) ?_|refine CK.dx [1] [] zb9 (B.1) ?_|refine CK.dx [1] [] zb8 (B.2) ?_|with_reducible refine zab ?_|omega))
  ·have h65':(N6.1==5)=false:=by simpa using h65
   have A:=zpy hX0 pr fa m hz hfa hm'
   have B:=zjJ hX0 protocol faults l hz hf hl
   generalize zaI (p::r) pr fa m=R at *
   generalize zaI (p::r) protocol faults l=S at *
   rw [List.length_map,hln] at A
   refine zam (fun _=>3) 4 fi5 ?_
   (repeat' (first|refine Va (fA5 @kz tq5 hlm hm0 h65') ?_|(with_reducible first|refine SB.c ?_ ?_<;>intro _|exact zac)|refine CK.d0 zfq zd5 ?_|refine CK.dx [] [0,1,2] zgt cD ?_|refine dC1 zae c6 ?_|refine CK.dx [1,2] [] zb9 (A.1) ?_|refine CK.dx [1,2] [] zb8 (A.2) ?_|refine CK.dx [1] [] zb9 (B.1) ?_|refine CK.dx [1] [] zb8 (B.2) ?_|with_reducible refine zab ?_|omega))
 have hm1:(m.length:Int) > 0:=by omega
 by_cases h43:N4.1=3
 rotate_left
 ·have h43':(N4.1==3)=false:=by simpa using h43
  have hln:m.length=m.length:=rfl
  have c6:=zaT xs N4.2 6 (by omega) (by omega) (by omega)
  have l6:=zaG xs N4.2 6 l4
  generalize nxt xs N4.2 6=N6 at *
  by_cases h65:N6.1=5
  ·have h65':(N6.1==5)=true:=by simpa using h65
   have cM:=zm6 xs hxs N6.2 l6
   have lM:=zkr xs N6.2 l6
   generalize zlB xs N6.2=Q at *
   have c3:=zaT xs Q.2 3 (by omega) (by omega) (by omega)
   have n3:=zaM xs Q.2 3 (by omega)
   generalize nxt xs Q.2 3=W at *
   have hv:rgV ⟨Q.1,W.1,0⟩=true:=by simp only [rgV,zc9 W.1 n3.1 (by omega),Bool.true_and];decide
   have hX:=hset ⟨Q.1,W.1,0⟩
   have ev:zas ⟨Q.1,W.1,0⟩=[.str Q.1,.int .i64 W.1,.int .i64 0]:=rfl
   rw [ev] at hX
   have hXX:(zb0 X0 0 0 [.slice (p.vars.map zas++[[.str Q.1,.int .i64 W.1,.int .i64 0]])]).length=X0.length:=by simp [zb0]
   generalize hXe:zb0 X0 0 0 [.slice (p.vars.map zas++[[.str Q.1,.int .i64 W.1,.int .i64 0]])]=X at *
   have A:=zpy hX pr fa m (hzv _ hv) hfa hm'
   have B:=zjJ hX protocol faults l (hzv _ hv) hf hl
   generalize zaI (zov p ⟨Q.1,W.1,0⟩::r) pr fa m=R at *
   generalize zaI (zov p ⟨Q.1,W.1,0⟩::r) protocol faults l=S at *
   rw [hXX,List.length_map,hln] at A
   rw [hXX] at B
   refine zam (fun _=>3) 4 fi5 ?_
   (repeat' (first|refine Va (zhT @kz tq5 hlm hm1 h43' h65' hpc hva hrm hXe hXp) ?_|(with_reducible first|refine SB.c ?_ ?_<;>intro _|exact zac)|refine CK.d0 zfq zd5 ?_|refine CK.dx [] [0,1,2] zgt cD ?_|refine dC1 zae c4 ?_|refine dC1 zae c6 ?_|refine dC1 zke cM ?_|refine dC1 zae c3 ?_|refine CK.dx [1,2] [] zb9 (A.1) ?_|refine CK.dx [1,2] [] zb8 (A.2) ?_|refine CK.dx [1] [] zb9 (B.1) ?_|refine CK.dx [1] [] zb8 (B.2) ?_|with_reducible refine zab ?_|omega))
  ·have h65':(N6.1==5)=false:=by simpa using h65
   have A:=zpy hX0 pr fa m hz hfa hm'
   have B:=zjJ hX0 protocol faults l hz hf hl
   generalize zaI (p::r) pr fa m=R at *
   generalize zaI (p::r) protocol faults l=S at *
   rw [List.length_map,hln] at A
   refine zam (fun _=>3) 4 fi5 ?_
   (repeat' (first|refine Va (fA6 @kz tq5 hlm hm1 h43' h65') ?_|(with_reducible first|refine SB.c ?_ ?_<;>intro _|exact zac)|refine CK.d0 zfq zd5 ?_|refine CK.dx [] [0,1,2] zgt cD ?_|refine dC1 zae c4 ?_|refine dC1 zae c6 ?_|refine CK.dx [1,2] [] zb9 (A.1) ?_|refine CK.dx [1,2] [] zb8 (A.2) ?_|refine CK.dx [1] [] zb9 (B.1) ?_|refine CK.dx [1] [] zb8 (B.2) ?_|with_reducible refine zab ?_|omega))
 have h43':(N4.1==3)=true:=by simpa using h43
 have cI:=zaT xs N4.2 m.length (by omega) (by omega) (by omega)
 have nI:=zaM xs N4.2 m.length (by omega)
 have lI:=zaG xs N4.2 m.length l4
 generalize nxt xs N4.2 m.length=I at *
 obtain ⟨i,hi⟩:=Int.eq_ofNat_of_zero_le nI.1
 rw [hi] at cI nI
 have hil:i<m.length:=by omega
 have cK:=zot xs hxs I.2 lI
 have lK:=zfz xs I.2 lI
 have rK:=zr3 xs I.2
 generalize zfE xs I.2=K at *
 have d1:=zaT xs K.2 2 (by omega) (by omega) (by omega)
 have n1:=zaM xs K.2 2 (by omega)
 have e1:=zaG xs K.2 2 lK
 generalize nxt xs K.2 2=U at *
 have d2:=zaT xs U.2 2 (by omega) (by omega) (by omega)
 have n2:=zaM xs U.2 2 (by omega)
 have e2:=zaG xs U.2 2 e1
 generalize nxt xs U.2 2=U2 at *
 have d3:=zaT xs U2.2 2 (by omega) (by omega) (by omega)
 have n3:=zaM xs U2.2 2 (by omega)
 have ha1:=zaG xs U2.2 2 e2
 generalize nxt xs U2.2 2=U3 at *
 have hsm:=zuB m i hil K.1 U.1 U2.1 U3.1
 have hmx:∀ x ∈ m.set i ⟨K.1,U.1,U2.1,U3.1⟩,zkS x=true:=fun x hx=>by
  rcases List.mem_or_eq_of_mem_set hx with hx|rfl
  ·exact hm' x hx
  ·simp only [zkS,rK,zc9 U.1 n1.1 (by omega),zc9 U2.1 n2.1 (by omega),zc9 U3.1 n3.1 (by omega),Bool.and_self]
 have hln:(m.set i ⟨K.1,U.1,U2.1,U3.1⟩).length=m.length:=by simp
 generalize m.set i ⟨K.1,U.1,U2.1,U3.1⟩=m1 at *
 generalize U3.2=a1 at *
 have c6:=zaT xs a1 6 (by omega) (by omega) (by omega)
 have l6:=zaG xs a1 6 ha1
 generalize nxt xs a1 6=N6 at *
 by_cases h65:N6.1=5
 ·have h65':(N6.1==5)=true:=by simpa using h65
  have cM:=zm6 xs hxs N6.2 l6
  have lM:=zkr xs N6.2 l6
  generalize zlB xs N6.2=Q at *
  have c3:=zaT xs Q.2 3 (by omega) (by omega) (by omega)
  have n4:=zaM xs Q.2 3 (by omega)
  generalize nxt xs Q.2 3=W at *
  have hv:rgV ⟨Q.1,W.1,0⟩=true:=by simp only [rgV,zc9 W.1 n4.1 (by omega),Bool.true_and];decide
  have hX:=hset ⟨Q.1,W.1,0⟩
  have ev:zas ⟨Q.1,W.1,0⟩=[.str Q.1,.int .i64 W.1,.int .i64 0]:=rfl
  rw [ev] at hX
  have hXX:(zb0 X0 0 0 [.slice (p.vars.map zas++[[.str Q.1,.int .i64 W.1,.int .i64 0]])]).length=X0.length:=by simp [zb0]
  generalize hXe:zb0 X0 0 0 [.slice (p.vars.map zas++[[.str Q.1,.int .i64 W.1,.int .i64 0]])]=X at *
  have A:=zpy hX pr fa m1 (hzv _ hv) hfa hmx
  have B:=zjJ hX protocol faults l (hzv _ hv) hf hl
  generalize zaI (zov p ⟨Q.1,W.1,0⟩::r) pr fa m1=R at *
  generalize zaI (zov p ⟨Q.1,W.1,0⟩::r) protocol faults l=S at *
  rw [hXX,List.length_map,hln] at A
  rw [hXX] at B
  refine zam (fun _=>3) 4 fi5 ?_
  (repeat' (first|refine Va (zoZ @kz tq5 hlm hm1 h43' hil hsm h65' hpc hva hrm hXe hXp) ?_|(with_reducible first|refine SB.c ?_ ?_<;>intro _|exact zac)|refine CK.d0 zfq zd5 ?_|refine CK.dx [] [0,1,2] zgt cD ?_|refine dC1 zae c4 ?_|refine dC1 zae cI ?_|refine dC1 zcq cK ?_|refine dC1 zae d1 ?_|refine dC1 zae d2 ?_|refine dC1 zae d3 ?_|refine dC1 zae c6 ?_|refine dC1 zke cM ?_|refine dC1 zae c3 ?_|refine CK.dx [1,2] [] zb9 (A.1) ?_|refine CK.dx [1,2] [] zb8 (A.2) ?_|refine CK.dx [1] [] zb9 (B.1) ?_|refine CK.dx [1] [] zb8 (B.2) ?_|with_reducible refine zab ?_|omega))
 ·have h65':(N6.1==5)=false:=by simpa using h65
  have A:=zpy hX0 pr fa m1 hz hfa hmx
  have B:=zjJ hX0 protocol faults l hz hf hl
  generalize zaI (p::r) pr fa m1=R at *
  generalize zaI (p::r) protocol faults l=S at *
  rw [List.length_map,hln] at A
  refine zam (fun _=>3) 4 fi5 ?_
  (repeat' (first|refine Va (fA8 @kz tq5 hlm hm1 h43' hil hsm h65') ?_|(with_reducible first|refine SB.c ?_ ?_<;>intro _|exact zac)|refine CK.d0 zfq zd5 ?_|refine CK.dx [] [0,1,2] zgt cD ?_|refine dC1 zae c4 ?_|refine dC1 zae cI ?_|refine dC1 zcq cK ?_|refine dC1 zae d1 ?_|refine dC1 zae d2 ?_|refine dC1 zae d3 ?_|refine dC1 zae c6 ?_|refine CK.dx [1,2] [] zb9 (A.1) ?_|refine CK.dx [1,2] [] zb8 (A.2) ?_|refine CK.dx [1] [] zb9 (B.1) ?_|refine CK.dx [1] [] zb8 (B.2) ?_|with_reducible refine zab ?_|omega))
end Go.Proofs.YtfinhhblcdkpgaaGreatDoor
