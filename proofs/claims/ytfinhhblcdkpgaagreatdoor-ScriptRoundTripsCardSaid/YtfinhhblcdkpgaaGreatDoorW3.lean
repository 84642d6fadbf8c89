/- A part of the walk (Tryz_W3): its theorems have no condition beyond what they state. -/
import Derived.Test.YtfinhhblcdkpgaaGreatDoorW2
set_option maxRecDepth 100000
set_option maxHeartbeats 64000000
namespace Go.Proofs.YtfinhhblcdkpgaaGreatDoor
open Go Go.Abs Go.RowKit
theorem zeQ (n:Nat) (t:List UInt8) (hn:n≤100000000) (hb:t.length≤100000000000000):AC Tryz.prog gl 150 [.ref 0 0,.pv (.int .i64 n)] (wrO t) (.tup []) (wrQ (t++zde n)):=by
 refine zax (fun _=>3) 4 zEe ?_
 (repeat' (first|refine V0 zuK ?_|(with_reducible first|refine SB.c (fun _=>?_) fun _=>?_|exact zad)|with_reducible refine zac ?_|omega))
 refine zbw (ι:={k:Nat // k≤n}) (fun i=>⟨(.ref 0 0::jl 3 (.pv (.int .i64 n)::.pv (.int .i64 i.1)::jl 5 [])),[some (.cells [.row 2 (t++zde i.1).length]),some .dead,some (.row 1 ((t++zde i.1).map zmG)),none]⟩) (fun i=>n - i.1) ⟨0,by omega⟩ (WMe [0,1,1,3] (by simp [kwt,zde]) (by simp [kwt,zde])) ?_
 rintro ⟨k,hk⟩
 by_cases hlt:k<n
 ·have hlt':(k:Int)<n:=by omega
  have hw:=zbu k (by omega)
  have hlk:(zde k).length=2 * k:=by simp [zde]
  have c:=zfO [32,32] (t++zde k) (by simp only [List.length_append,hlk,List.length_cons,List.length_nil];omega)
  have hu:t++zde (k+1)=(t++zde k)++[32,32]:=by
   rw [List.append_assoc]
   congr 1
   unfold zde
   rw [show 2 * (k+1)=2 * k+2 by omega,←List.replicate_append_replicate]
   rfl
  rw [←hu] at c
  (repeat' (first|refine V1 (And.intro zuK <|And.intro @hlt' @hw) ?_|(with_reducible first|refine SB.c (fun _=>?_) fun _=>?_|exact zad)|refine CK.dx [0,2] [3] zaq c ?_|with_reducible refine zac ?_|omega))
  exact ⟨⟨k+1,by omega⟩,(WTe [0,1,3,2] (by simp [kwt]) (by simp [kwt])),by show n - (k+1)<n - k;omega⟩
 ·have hlt':¬ (k:Int)<n:=by omega
  have hke:k=n:=by omega
  subst hke
  (repeat' (first|refine V0 (And.intro zuK @hlt') ?_|(with_reducible first|refine SB.c (fun _=>?_) fun _=>?_|exact zad)|with_reducible refine zac ?_|omega))
  (refine zaH.mk [0,1,2] ?_ ?_<;>simp [kwr,zuK])
def LW3 (n:Nat) (l:List Sm):Prop:=∀ t:List UInt8,t.length+(lsT n l).length≤100000000000000→AC Tryz.prog gl 116 [.ref 0 0,.pv (.slice (l.map zam)),.pv (.int .i64 n)] (wrO t) (.tup []) (wrQ (t++lsT n l))
def SW3 (n:Nat) (s:Sm):Prop:=∀ t:List UInt8,t.length+(stT n s).length≤100000000000000→AC Tryz.prog gl 151 [.ref 0 0,.pv (.ptr (zam s)),.pv (.int .i64 n)] (wrO t) (.tup []) (wrQ (t++stT n s))
theorem zoQ (n:Nat) (hn:n≤100000000) (l:List Sm) (hl:l.length≤1000000000) (hS:∀ s ∈ l,SW3 n s):LW3 n l:=by
 intro t hb
 refine zax (fun _=>3) 5 zD5 ?_
 (repeat' (first|refine V0 zuI ?_|(with_reducible first|refine SB.c (fun _=>?_) fun _=>?_|exact zad)|with_reducible refine zac ?_|omega))
 refine zbw (ι:={q:Nat × List UInt8 // q.1≤l.length∧q.2++lsT n (l.drop q.1)=t++lsT n l}) (fun i=>⟨(.ref 0 0::.pv (.slice (l.map zam))::.pv (.int .i64 n)::jl 5 (.pv (.int .i64 l.length)::.pv (.int .i64 i.1.1)::jl 12 [])),[some (.cells [.row 2 i.1.2.length]),some .dead,some (.row 1 (i.1.2.map zmG)),none,none]⟩) (fun i=>l.length - i.1.1) ⟨(0,t),by simp⟩ (WMe [0,1,1,3,4] (by simp [kwt]) (by simp [kwt])) ?_
 rintro ⟨⟨k,u⟩,hk,hu⟩
 replace hk:k≤l.length:=hk
 replace hu:u++lsT n (l.drop k)=t++lsT n l:=hu
 by_cases hlt:k<l.length
 ·have hlt':(k:Int)<l.length:=by omega
  have hget:=zaV zam l k hlt
  have hc:=hS l[k] (List.getElem_mem hlt)
  rw [List.drop_eq_getElem_cons hlt,lsT] at hu
  have hlen:=congrArg List.length hu
  simp only [List.length_append] at hlen
  generalize l[k]=x at *
  have hx:=zeI x
  have hw:=zbu k (by omega)
  have c1:=zeQ n u hn (by omega)
  have c2:=hc (u++zde n) (by simp only [List.length_append];omega)
  (repeat' (first|refine V1 (And.intro zuI <|And.intro @hlt' <|And.intro @hlt <|And.intro @hget <|And.intro @hx @hw) ?_|(with_reducible first|refine SB.c (fun _=>?_) fun _=>?_|exact zad)|refine CK.dx [0,2] [3] zeG c1 ?_|refine CK.dx [0,3] [4] zrI c2 ?_|with_reducible refine zac ?_|omega))
  exact ⟨⟨(k+1,u++zde n++stT n x),by show k+1≤l.length;omega,by show u++zde n++stT n x++lsT n (l.drop (k+1))=t++lsT n l;rw [←hu];simp⟩,(WTe [0,1,4,2,3] (by simp [kwt]) (by simp [kwt])),by show l.length - (k+1)<l.length - k;omega⟩
 ·have hlt':¬ (k:Int)<l.length:=by omega
  rw [List.drop_eq_nil_of_le (by omega),lsT,List.append_nil] at hu
  subst hu
  (repeat' (first|refine V0 (And.intro zuI @hlt') ?_|(with_reducible first|refine SB.c (fun _=>?_) fun _=>?_|exact zad)|with_reducible refine zac ?_|omega))
  (refine zaH.mk [0,1,2] ?_ ?_<;>simp [kwr,zuI])
theorem zk0 {s:Sm} (hg:zcr s=true):(1≤s.kind∧s.kind≤6)∧((s.kind=2∨s.kind=5)→zbc s.place=true)∧zbc s.value=true∧zan s.body=true∧zan s.els=true∧(s.kind≠3→s.els=[]):=by
 rw [zh7] at hg
 simp only [Bool.and_eq_true,zel,decide_eq_true_eq] at hg
 refine ⟨⟨hg.1.1.1.1.1.1.1.1,hg.1.1.1.1.1.1.1.2⟩,fun h=>?_,hg.2.1.1,hg.2.1.2,hg.2.2,fun h=>?_⟩
 ·have hp:=hg.1.1.1.2
  have hc:(s.kind==2 || s.kind==5)=true:=by rcases h with h|h<;>simp [h]
  simpa only [hc,if_true] using hp
 ·have he:=hg.1.2
  have h3:(s.kind != 3)=true:=by simpa using h
  rw [h3] at he
  simp at he
  exact he
theorem zvg (n:Nat) (hn:n≤10000000) (s:Sm) (hg:zcr s=true) (hr:rgS s=true) (hz:szS s≤1000000) (hB:LW3 (n+1) s.body) (hE:LW3 (n+1) s.els) (hk:s.kind=3∨s.kind=4) (t:List UInt8) (hb:t.length+(stT n s).length≤100000000000000) :
  AC Tryz.prog gl 170 [.ref 0 0,.pv (.ptr (zam s)),.pv (.int .i64 n)] (wrO t) (.tup []) (wrQ (t++stT n s)):=by
 obtain ⟨g1,g2,g3,g4,g5,g6⟩:=zk0 hg
 rw [zse] at hr
 simp only [Bool.and_eq_true] at hr
 have hsz:=zf7 s
 have hw:IntKind.i64.wrap ((n:Int)+1)=((n+1:Nat):Int):=zbu n (by omega)
 have hlV:=zkO s.value g3
 rw [zl2] at hb ⊢
 have hli:(zde n).length=2 * n:=by simp [zde]
 have hse:=zar s
 rw [hse]
 by_cases he:s.els.length > 0
 ·have hk3:s.kind=3:=by
   rcases hk with h|h
   ·exact h
   ·exfalso;have:=g6 (by omega);rw [this] at he;simp at he
  have he':((s.els.length:Nat):Int) > 0:=by omega
  have ev:fmS s.kind s.name (fmE s.place) (fmE s.value) (lsT (n+1) s.body) (lsT (n+1) s.els) (decide (s.els.length > 0)) n=[105,102,32]++fmE s.value++[32,123,10]++lsT (n+1) s.body++zde n++([125,32,101,108,115,101,32,123,10]++lsT (n+1) s.els++zde n)++[125,10]:=by
   rw [hk3,decide_eq_true he];rfl
  rw [ev] at hb ⊢
  simp only [List.length_append,List.length_cons,List.length_nil,hli] at hb
  have c1:=zfO [105,102,32] t (by simp only [List.length_append,List.length_cons,List.length_nil];omega)
  have c2:=zdb _ s.value (Nat.le_refl _) g3 hr.1.1.2 (t++[105,102,32]) (by simp only [List.length_append,List.length_cons,List.length_nil];omega)
  have c3:=zfO [32,123,10] (t++[105,102,32]++fmE s.value) (by simp only [List.length_append,List.length_cons,List.length_nil];omega)
  have c4:=hB (t++[105,102,32]++fmE s.value++[32,123,10]) (by simp only [List.length_append,List.length_cons,List.length_nil];omega)
  have c5:=zeQ n (t++[105,102,32]++fmE s.value++[32,123,10]++lsT (n+1) s.body) (by omega) (by simp only [List.length_append,List.length_cons,List.length_nil];omega)
  have c6:=zfO [125,32,101,108,115,101,32,123,10] (t++[105,102,32]++fmE s.value++[32,123,10]++lsT (n+1) s.body++zde n) (by simp only [List.length_append,List.length_cons,List.length_nil,hli];omega)
  have c7:=hE (t++[105,102,32]++fmE s.value++[32,123,10]++lsT (n+1) s.body++zde n++[125,32,101,108,115,101,32,123,10]) (by simp only [List.length_append,List.length_cons,List.length_nil,hli];omega)
  have c8:=zeQ n (t++[105,102,32]++fmE s.value++[32,123,10]++lsT (n+1) s.body++zde n++[125,32,101,108,115,101,32,123,10]++lsT (n+1) s.els) (by omega) (by simp only [List.length_append,List.length_cons,List.length_nil,hli];omega)
  have c9:=zfO [125,10] (t++[105,102,32]++fmE s.value++[32,123,10]++lsT (n+1) s.body++zde n++[125,32,101,108,115,101,32,123,10]++lsT (n+1) s.els++zde n) (by simp only [List.length_append,List.length_cons,List.length_nil,hli];omega)
  rw [zay] at c2
  have ef:t++[105,102,32]++fmE s.value++[32,123,10]++lsT (n+1) s.body++zde n++[125,32,101,108,115,101,32,123,10]++lsT (n+1) s.els++zde n++[125,10]=t++([105,102,32]++fmE s.value++[32,123,10]++lsT (n+1) s.body++zde n++([125,32,101,108,115,101,32,123,10]++lsT (n+1) s.els++zde n)++[125,10]):=by simp only [List.append_assoc]
  rw [ef] at c9
  refine zax (fun _=>2) 11 zxT ?_
  (repeat' (first|refine V1 (And.intro zpL <|And.intro @hk3 <|And.intro @hw @he') ?_|(with_reducible first|refine SB.c (fun _=>?_) fun _=>?_|exact zad)|refine CK.dx [0,1] [2] zaq c1 ?_|refine CK.dx [0,2] [3] zbQ c2 ?_|refine CK.dx [0,3] [4] zaq c3 ?_|refine CK.dx [0,4] [5] zeD c4 ?_|refine CK.dx [0,5] [6] zeG c5 ?_|refine CK.dx [0,6] [7] zaq c6 ?_|refine CK.dx [0,7] [8] zeD c7 ?_|refine CK.dx [0,8] [9] zeG c8 ?_|refine CK.dx [0,9] [10] zaq c9 ?_|with_reducible refine zac ?_|omega))
  (refine zaH.mk [0,1,10] ?_ ?_<;>simp [kwr,zpL])
 ·have he':¬ ((s.els.length:Nat):Int) > 0:=by omega
  rcases hk with hk|hk
  ·have ev:fmS s.kind s.name (fmE s.place) (fmE s.value) (lsT (n+1) s.body) (lsT (n+1) s.els) (decide (s.els.length > 0)) n=[105,102,32]++fmE s.value++[32,123,10]++lsT (n+1) s.body++zde n++[]++[125,10]:=by
    rw [hk,decide_eq_false he];rfl
   rw [ev,List.append_nil] at hb ⊢
   simp only [List.length_append,List.length_cons,List.length_nil,hli] at hb
   have c1:=zfO [105,102,32] t (by simp only [List.length_append,List.length_cons,List.length_nil];omega)
   have c2:=zdb _ s.value (Nat.le_refl _) g3 hr.1.1.2 (t++[105,102,32]) (by simp only [List.length_append,List.length_cons,List.length_nil];omega)
   have c3:=zfO [32,123,10] (t++[105,102,32]++fmE s.value) (by simp only [List.length_append,List.length_cons,List.length_nil];omega)
   have c4:=hB (t++[105,102,32]++fmE s.value++[32,123,10]) (by simp only [List.length_append,List.length_cons,List.length_nil];omega)
   have c5:=zeQ n (t++[105,102,32]++fmE s.value++[32,123,10]++lsT (n+1) s.body) (by omega) (by simp only [List.length_append,List.length_cons,List.length_nil];omega)
   have c9:=zfO [125,10] (t++[105,102,32]++fmE s.value++[32,123,10]++lsT (n+1) s.body++zde n) (by simp only [List.length_append,List.length_cons,List.length_nil,hli];omega)
   rw [zay] at c2
   have ef:t++[105,102,32]++fmE s.value++[32,123,10]++lsT (n+1) s.body++zde n++[125,10]=t++([105,102,32]++fmE s.value++[32,123,10]++lsT (n+1) s.body++zde n++[125,10]):=by simp only [List.append_assoc]
   rw [ef] at c9
   refine zax (fun _=>2) 11 zxT ?_
   (repeat' (first|refine V1 (And.intro zpL <|And.intro @hk <|And.intro @hw @he') ?_|(with_reducible first|refine SB.c (fun _=>?_) fun _=>?_|exact zad)|refine CK.dx [0,1] [2] zaq c1 ?_|refine CK.dx [0,2] [3] zbQ c2 ?_|refine CK.dx [0,3] [4] zaq c3 ?_|refine CK.dx [0,4] [5] zeD c4 ?_|refine CK.dx [0,5] [6] zeG c5 ?_|refine CK.dx [0,6] [7] zaq c9 ?_|with_reducible refine zac ?_|omega))
   (refine zaH.mk [0,1,7] ?_ ?_<;>simp [kwr,zpL])
  ·have ev:fmS s.kind s.name (fmE s.place) (fmE s.value) (lsT (n+1) s.body) (lsT (n+1) s.els) (decide (s.els.length > 0)) n=[119,104,105,108,101,32]++fmE s.value++[32,123,10]++lsT (n+1) s.body++zde n++[]++[125,10]:=by
    rw [hk,decide_eq_false he];rfl
   rw [ev,List.append_nil] at hb ⊢
   simp only [List.length_append,List.length_cons,List.length_nil,hli] at hb
   have c1:=zfO [119,104,105,108,101,32] t (by simp only [List.length_append,List.length_cons,List.length_nil];omega)
   have c2:=zdb _ s.value (Nat.le_refl _) g3 hr.1.1.2 (t++[119,104,105,108,101,32]) (by simp only [List.length_append,List.length_cons,List.length_nil];omega)
   have c3:=zfO [32,123,10] (t++[119,104,105,108,101,32]++fmE s.value) (by simp only [List.length_append,List.length_cons,List.length_nil];omega)
   have c4:=hB (t++[119,104,105,108,101,32]++fmE s.value++[32,123,10]) (by simp only [List.length_append,List.length_cons,List.length_nil];omega)
   have c5:=zeQ n (t++[119,104,105,108,101,32]++fmE s.value++[32,123,10]++lsT (n+1) s.body) (by omega) (by simp only [List.length_append,List.length_cons,List.length_nil];omega)
   have c9:=zfO [125,10] (t++[119,104,105,108,101,32]++fmE s.value++[32,123,10]++lsT (n+1) s.body++zde n) (by simp only [List.length_append,List.length_cons,List.length_nil,hli];omega)
   rw [zay] at c2
   have ef:t++[119,104,105,108,101,32]++fmE s.value++[32,123,10]++lsT (n+1) s.body++zde n++[125,10]=t++([119,104,105,108,101,32]++fmE s.value++[32,123,10]++lsT (n+1) s.body++zde n++[125,10]):=by simp only [List.append_assoc]
   rw [ef] at c9
   refine zax (fun _=>2) 11 zxT ?_
   (repeat' (first|refine V1 (And.intro zpL <|And.intro @hk <|And.intro @hw @he') ?_|(with_reducible first|refine SB.c (fun _=>?_) fun _=>?_|exact zad)|refine CK.dx [0,1] [2] zaq c1 ?_|refine CK.dx [0,2] [3] zbQ c2 ?_|refine CK.dx [0,3] [4] zaq c3 ?_|refine CK.dx [0,4] [5] zeD c4 ?_|refine CK.dx [0,5] [6] zeG c5 ?_|refine CK.dx [0,6] [7] zaq c9 ?_|with_reducible refine zac ?_|omega))
   (refine zaH.mk [0,1,7] ?_ ?_<;>simp [kwr,zpL])
theorem zvh (n:Nat) (hn:n≤10000000) (s:Sm) (hg:zcr s=true) (hr:rgS s=true) (hz:szS s≤1000000) (hB:LW3 (n+1) s.body) (hE:LW3 (n+1) s.els):SW3 n s:=by
 intro t hb
 have hN:=zvg n hn s hg hr hz hB hE
 obtain ⟨g1,g2,g3,g4,g5,g6⟩:=zk0 hg
 rw [zse] at hr
 simp only [Bool.and_eq_true] at hr
 have hse:=zar s
 have hk:s.kind=1∨s.kind=2∨(s.kind=3∨s.kind=4)∨s.kind=5∨s.kind=6:=by omega
 rcases hk with hk|hk|hk|hk|hk
 ·have ev:stT n s=s.name++[32,61,32]++fmE s.value++[59,10]:=by rw [zl2,hk];rfl
  rw [ev] at hb ⊢
  rw [hse]
  simp only [List.length_append,List.length_cons,List.length_nil] at hb
  have c0:=zEF s.name [32,61,32] (t) (by simp only [List.length_append,List.length_cons,List.length_nil];omega)
  have c1:=zdb _ s.value (Nat.le_refl _) g3 hr.1.1.2 (t++(s.name++[32,61,32])) (by simp only [List.length_append,List.length_cons,List.length_nil];omega)
  rw [zay] at c1
  have c2:=zfO [59,10] (t++(s.name++[32,61,32])++fmE s.value) (by simp only [List.length_append,List.length_cons,List.length_nil];omega)
  have ef:t++(s.name++[32,61,32])++fmE s.value++[59,10]=t++(s.name++[32,61,32]++fmE s.value++[59,10]):=by simp only [List.append_assoc]
  rw [ef] at c2
  refine zax (fun _=>2) 7 zrC ?_
  (repeat' (first|refine V1 (And.intro zi9 @hk) ?_|(with_reducible first|refine SB.c (fun _=>?_) fun _=>?_|exact zad)|refine CK.dx [0,1] [2] zaq c0 ?_|refine CK.dx [0,2] [3] zbQ c1 ?_|refine CK.dx [0,3] [4] zaq c2 ?_|with_reducible refine zac ?_|omega))
  (refine zaH.mk [0,1,4] ?_ ?_<;>simp [kwr,zi9])
 ·have ev:stT n s=s.name++[91]++fmE s.place++[93,32,61,32]++fmE s.value++[59,10]:=by rw [zl2,hk];rfl
  rw [ev] at hb ⊢
  rw [hse]
  simp only [List.length_append,List.length_cons,List.length_nil] at hb
  have c0:=zEF s.name [91] (t) (by simp only [List.length_append,List.length_cons,List.length_nil];omega)
  have c1:=zdb _ s.place (Nat.le_refl _) (g2 (by omega)) hr.1.1.1 (t++(s.name++[91])) (by simp only [List.length_append,List.length_cons,List.length_nil];omega)
  rw [zay] at c1
  have c2:=zfO [93,32,61,32] (t++(s.name++[91])++fmE s.place) (by simp only [List.length_append,List.length_cons,List.length_nil];omega)
  have c3:=zdb _ s.value (Nat.le_refl _) g3 hr.1.1.2 (t++(s.name++[91])++fmE s.place++[93,32,61,32]) (by simp only [List.length_append,List.length_cons,List.length_nil];omega)
  rw [zay] at c3
  have c4:=zfO [59,10] (t++(s.name++[91])++fmE s.place++[93,32,61,32]++fmE s.value) (by simp only [List.length_append,List.length_cons,List.length_nil];omega)
  have ef:t++(s.name++[91])++fmE s.place++[93,32,61,32]++fmE s.value++[59,10]=t++(s.name++[91]++fmE s.place++[93,32,61,32]++fmE s.value++[59,10]):=by simp only [List.append_assoc]
  rw [ef] at c4
  refine zax (fun _=>2) 7 zrC ?_
  (repeat' (first|refine V1 (And.intro zi9 @hk) ?_|(with_reducible first|refine SB.c (fun _=>?_) fun _=>?_|exact zad)|refine CK.dx [0,1] [2] zaq c0 ?_|refine CK.dx [0,2] [3] zbQ c1 ?_|refine CK.dx [0,3] [4] zaq c2 ?_|refine CK.dx [0,4] [5] zbQ c3 ?_|refine CK.dx [0,5] [6] zaq c4 ?_|with_reducible refine zac ?_|omega))
  (refine zaH.mk [0,1,6] ?_ ?_<;>simp [kwr,zi9])
 ·have c:=hN hk t hb
  rw [hse] at c ⊢
  rcases hk with hk|hk
  all_goals (
   rw [hk] at c
   refine zax (fun _=>2) 7 zrC ?_
   (repeat' (first|refine V1 (And.intro zi9 @hk) ?_|(with_reducible first|refine SB.c (fun _=>?_) fun _=>?_|exact zad)|refine CK.dx [0,1] [2] zrM c ?_|with_reducible refine zac ?_|omega))
   (refine zaH.mk [0,1,2] ?_ ?_<;>simp [kwr,zi9]))
 ·have ev:stT n s=[115,101,110,100,32]++fmE s.place++[44,32]++fmE s.value++[59,10]:=by rw [zl2,hk];rfl
  rw [ev] at hb ⊢
  rw [hse]
  simp only [List.length_append,List.length_cons,List.length_nil] at hb
  have c0:=zfO [115,101,110,100,32] (t) (by simp only [List.length_append,List.length_cons,List.length_nil];omega)
  have c1:=zdb _ s.place (Nat.le_refl _) (g2 (by omega)) hr.1.1.1 (t++[115,101,110,100,32]) (by simp only [List.length_append,List.length_cons,List.length_nil];omega)
  rw [zay] at c1
  have c2:=zfO [44,32] (t++[115,101,110,100,32]++fmE s.place) (by simp only [List.length_append,List.length_cons,List.length_nil];omega)
  have c3:=zdb _ s.value (Nat.le_refl _) g3 hr.1.1.2 (t++[115,101,110,100,32]++fmE s.place++[44,32]) (by simp only [List.length_append,List.length_cons,List.length_nil];omega)
  rw [zay] at c3
  have c4:=zfO [59,10] (t++[115,101,110,100,32]++fmE s.place++[44,32]++fmE s.value) (by simp only [List.length_append,List.length_cons,List.length_nil];omega)
  have ef:t++[115,101,110,100,32]++fmE s.place++[44,32]++fmE s.value++[59,10]=t++([115,101,110,100,32]++fmE s.place++[44,32]++fmE s.value++[59,10]):=by simp only [List.append_assoc]
  rw [ef] at c4
  refine zax (fun _=>2) 7 zrC ?_
  (repeat' (first|refine V1 (And.intro zi9 @hk) ?_|(with_reducible first|refine SB.c (fun _=>?_) fun _=>?_|exact zad)|refine CK.dx [0,1] [2] zaq c0 ?_|refine CK.dx [0,2] [3] zbQ c1 ?_|refine CK.dx [0,3] [4] zaq c2 ?_|refine CK.dx [0,4] [5] zbQ c3 ?_|refine CK.dx [0,5] [6] zaq c4 ?_|with_reducible refine zac ?_|omega))
  (refine zaH.mk [0,1,6] ?_ ?_<;>simp [kwr,zi9])
 ·have ev:stT n s=[111,117,116,112,117,116,32]++fmE s.value++[59,10]:=by rw [zl2,hk];rfl
  rw [ev] at hb ⊢
  rw [hse]
  simp only [List.length_append,List.length_cons,List.length_nil] at hb
  have c0:=zfO [111,117,116,112,117,116,32] (t) (by simp only [List.length_append,List.length_cons,List.length_nil];omega)
  have c1:=zdb _ s.value (Nat.le_refl _) g3 hr.1.1.2 (t++[111,117,116,112,117,116,32]) (by simp only [List.length_append,List.length_cons,List.length_nil];omega)
  rw [zay] at c1
  have c2:=zfO [59,10] (t++[111,117,116,112,117,116,32]++fmE s.value) (by simp only [List.length_append,List.length_cons,List.length_nil];omega)
  have ef:t++[111,117,116,112,117,116,32]++fmE s.value++[59,10]=t++([111,117,116,112,117,116,32]++fmE s.value++[59,10]):=by simp only [List.append_assoc]
  rw [ef] at c2
  refine zax (fun _=>2) 7 zrC ?_
  (repeat' (first|refine V1 (And.intro zi9 @hk) ?_|(with_reducible first|refine SB.c (fun _=>?_) fun _=>?_|exact zad)|refine CK.dx [0,1] [2] zaq c0 ?_|refine CK.dx [0,2] [3] zbQ c1 ?_|refine CK.dx [0,3] [4] zaq c2 ?_|with_reducible refine zac ?_|omega))
  (refine zaH.mk [0,1,4] ?_ ?_<;>simp [kwr,zi9])
theorem zpZ (m:Nat):m≤1000000→∀ (n:Nat) (l:List Sm),zbh l≤m→n+m≤10000000→zan l=true→zim l=true→LW3 n l:=by
 induction m with
 |zero=>intro hm n l hl hn hg hr;exact zoQ n (by omega) l (by have:=zcT l;omega) (fun s hs=>by have:=zbJ l s hs;have:=zfB s;omega)
 |succ m ih=>
  intro hm n l hl hn hg hr
  refine zoQ n (by omega) l (by have:=zcT l;omega) (fun s hs=>?_)
  have h1:=zbJ l s hs
  have h2:=zf7 s
  have h3:=zb1 s.place
  have hgs:=zdw hg hs
  have hrs:=zgd hr hs
  obtain ⟨_,_,_,g4,g5,_⟩:=zk0 hgs
  have hr2:=hrs
  rw [zse] at hr2
  simp only [Bool.and_eq_true] at hr2
  exact zvh n (by omega) s hgs hrs (by omega) (ih (by omega) (n+1) s.body (by omega) (by omega) g4 hr2.1.2) (ih (by omega) (n+1) s.els (by omega) (by omega) g5 hr2.2)
theorem zvi (l:List Sm) (hl:zbh l≤1000000) (hg:zan l=true) (hr:zim l=true) (t:List UInt8) (hb:t.length+(lsT 1 l).length≤100000000000000):AC Tryz.prog gl 116 [.ref 0 0,.pv (.slice (l.map zam)),.pv (.int .i64 1)] (wrO t) (.tup []) (wrQ (t++lsT 1 l)):=
 zpZ _ hl 1 l (Nat.le_refl _) (by omega) hg hr t hb
end Go.Proofs.YtfinhhblcdkpgaaGreatDoor
