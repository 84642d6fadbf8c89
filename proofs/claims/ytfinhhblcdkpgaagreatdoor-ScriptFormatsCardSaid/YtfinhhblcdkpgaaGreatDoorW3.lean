/- A part of the walk (Tryz_W3): its theorems have no condition beyond what they state. -/
import Derived.Test.YtfinhhblcdkpgaaGreatDoorW2
set_option maxRecDepth 100000
set_option maxHeartbeats 64000000
set_option linter.unusedSimpArgs false
set_option linter.unusedVariables false
set_option linter.defProp false
namespace Go.Proofs.YtfinhhblcdkpgaaGreatDoor
open Go Go.Abs Go.RowKit
theorem zeH (n:Nat) (t:List UInt8) (hn:n≤100000000) (hb:t.length≤100000000000000):AC Tryz.prog gl 150 [.ref 0 0,.pv (.int .i64 n)] (wrO t) (.tup []) (wrQ (t++zbC n)):=by
 refine zay (fun _=>3) 4 zCR ?_
 (repeat' (first|refine Va ztC ?_|(with_reducible first|refine SB.c ?_ ?_<;>intro _|exact zac)|with_reducible refine zab ?_|omega))
 refine za6 (ι:={k:Nat // k≤n}) (fun i=>⟨(.ref 0 0::jl 3 (.pv (.int .i64 n)::.pv (.int .i64 i.1)::jl 5 [])),[some (.cells [.row 2 (t++zbC i.1).length]),some .dead,some (.row 1 ((t++zbC i.1).map zl2)),none]⟩) (fun i=>n - i.1) ⟨0,by omega⟩ (WMe [0,1,1,3] (by simp [kwt,zbC]) (by simp [kwt,zbC])) ?_
 rintro ⟨k,hk⟩
 by_cases hlt:k<n
 ·have hlt':(k:Int)<n:=by omega
  have hw:=zbc k (by omega)
  have hlk:(zbC k).length=2 * k:=by simp [zbC]
  have c:=zfF [32,32] (t++zbC k) (by simp only [List.length_append,hlk,List.length_cons,List.length_nil];omega)
  have hu:t++zbC (k+1)=(t++zbC k)++[32,32]:=by
   rw [List.append_assoc]
   congr 1
   unfold zbC
   rw [show 2 * (k+1)=2 * k+2 by omega,←List.replicate_append_replicate]
   rfl
  rw [←hu] at c
  (repeat' (first|refine Va (fA4 @kz ztC hlt' hw) ?_|(with_reducible first|refine SB.c ?_ ?_<;>intro _|exact zac)|refine CK.dx [0,2] [3] zav c ?_|with_reducible refine zab ?_|omega))
  exact ⟨⟨k+1,by omega⟩,(WTe [0,1,3,2] (by simp [kwt]) (by simp [kwt])),by show n - (k+1)<n - k;omega⟩
 ·have hlt':¬ (k:Int)<n:=by omega
  have hke:k=n:=by omega
  subst hke
  (repeat' (first|refine Va (fA2 ztC hlt') ?_|(with_reducible first|refine SB.c ?_ ?_<;>intro _|exact zac)|with_reducible refine zab ?_|omega))
  (refine zaJ.mk [0,1,2] ?_ ?_<;>simp [kwr,ztC])
def LW3 (n:Nat) (l:List Sm):Prop:=∀ t:List UInt8,t.length+(lsT n l).length≤100000000000000→AC Tryz.prog gl 116 [.ref 0 0,.pv (.slice (l.map zah)),.pv (.int .i64 n)] (wrO t) (.tup []) (wrQ (t++lsT n l))
def SW3 (n:Nat) (s:Sm):Prop:=∀ t:List UInt8,t.length+(stT n s).length≤100000000000000→AC Tryz.prog gl 151 [.ref 0 0,.pv (.ptr (zah s)),.pv (.int .i64 n)] (wrO t) (.tup []) (wrQ (t++stT n s))
theorem zof (n:Nat) (hn:n≤100000000) (l:List Sm) (hl:l.length≤1000000000) (hS:∀ s ∈ l,SW3 n s):LW3 n l:=by
 intro t hb
 refine zay (fun _=>3) 5 zCF ?_
 (repeat' (first|refine Va ztA ?_|(with_reducible first|refine SB.c ?_ ?_<;>intro _|exact zac)|with_reducible refine zab ?_|omega))
 refine za6 (ι:={q:Nat × List UInt8 // q.1≤l.length∧q.2++lsT n (l.drop q.1)=t++lsT n l}) (fun i=>⟨(.ref 0 0::.pv (.slice (l.map zah))::.pv (.int .i64 n)::jl 5 (.pv (.int .i64 l.length)::.pv (.int .i64 i.1.1)::jl 12 [])),[some (.cells [.row 2 i.1.2.length]),some .dead,some (.row 1 (i.1.2.map zl2)),none,none]⟩) (fun i=>l.length - i.1.1) ⟨(0,t),by simp⟩ (WMe [0,1,1,3,4] (by simp [kwt]) (by simp [kwt])) ?_
 rintro ⟨⟨k,u⟩,hk,hu⟩
 replace hk:k≤l.length:=hk
 replace hu:u++lsT n (l.drop k)=t++lsT n l:=hu
 by_cases hlt:k<l.length
 ·have hlt':(k:Int)<l.length:=by omega
  have hget:=zaN zah l k hlt
  have hc:=hS l[k] (List.getElem_mem hlt)
  rw [List.drop_eq_getElem_cons hlt,lsT] at hu
  have hlen:=congrArg List.length hu
  simp only [List.length_append] at hlen
  generalize l[k]=x at *
  have hx:=zez x
  have hw:=zbc k (by omega)
  have c1:=zeH n u hn (by omega)
  have c2:=hc (u++zbC n) (by simp only [List.length_append];omega)
  (repeat' (first|refine Va (fA7 @kz ztA hlt' hlt hget hx hw) ?_|(with_reducible first|refine SB.c ?_ ?_<;>intro _|exact zac)|refine CK.dx [0,2] [3] zex c1 ?_|refine CK.dx [0,3] [4] zqV c2 ?_|with_reducible refine zab ?_|omega))
  exact ⟨⟨(k+1,u++zbC n++stT n x),by show k+1≤l.length;omega,by show u++zbC n++stT n x++lsT n (l.drop (k+1))=t++lsT n l;rw [←hu];simp⟩,(WTe [0,1,4,2,3] (by simp [kwt]) (by simp [kwt])),by show l.length - (k+1)<l.length - k;omega⟩
 ·have hlt':¬ (k:Int)<l.length:=by omega
  rw [List.drop_eq_nil_of_le (by omega),lsT,List.append_nil] at hu
  subst hu
  (repeat' (first|refine Va (fA2 ztA hlt') ?_|(with_reducible first|refine SB.c ?_ ?_<;>intro _|exact zac)|with_reducible refine zab ?_|omega))
  (refine zaJ.mk [0,1,2] ?_ ?_<;>simp [kwr,ztA])
theorem zge {s:Sm} (hg:zdJ s=true):(1≤s.kind∧s.kind≤6)∧((s.kind=2∨s.kind=5)→zbq s.place=true)∧zbq s.value=true∧zao s.body=true∧zao s.els=true∧(s.kind≠3→s.els=[]):=by
 rw [zf4] at hg
 simp only [Bool.and_eq_true,zh4,decide_eq_true_eq] at hg
 refine ⟨⟨hg.1.1.1.1.1.1.1.1,hg.1.1.1.1.1.1.1.2⟩,fun h=>?_,hg.2.1.1,hg.2.1.2,hg.2.2,fun h=>?_⟩
 ·have hp:=hg.1.1.1.2
  have hc:(s.kind==2 || s.kind==5)=true:=by rcases h with h|h<;>simp [h]
  simpa only [hc,if_true] using hp
 ·have he:=hg.1.2
  have h3:(s.kind != 3)=true:=by simpa using h
  rw [h3] at he
  simp at he
  exact he
theorem zud (n:Nat) (hn:n≤10000000) (s:Sm) (hg:zdJ s=true) (hr:rgS s=true) (hz:szS s≤1000000) (hB:LW3 (n+1) s.body) (hE:LW3 (n+1) s.els) (hk:s.kind=3∨s.kind=4) (t:List UInt8) (hb:t.length+(stT n s).length≤100000000000000) :
  AC Tryz.prog gl 170 [.ref 0 0,.pv (.ptr (zah s)),.pv (.int .i64 n)] (wrO t) (.tup []) (wrQ (t++stT n s)):=by
 obtain ⟨g1,g2,g3,g4,g5,g6⟩:=zge hg
 rw [znW] at hr
 simp only [Bool.and_eq_true] at hr
 have hsz:=zeA s
 have hw:IntKind.i64.wrap ((n:Int)+1)=((n+1:Nat):Int):=zbc n (by omega)
 have hlV:=zeC s.value g3
 rw [zju] at hb ⊢
 have hli:(zbC n).length=2 * n:=by simp [zbC]
 have hse:=zar s
 rw [hse]
 by_cases he:s.els.length > 0
 ·have hk3:s.kind=3:=by
   rcases hk with h|h
   ·exact h
   ·exfalso;have:=g6 (by omega);rw [this] at he;simp at he
  have he':((s.els.length:Nat):Int) > 0:=by omega
  have ev:fmS s.kind s.name (fmE s.place) (fmE s.value) (lsT (n+1) s.body) (lsT (n+1) s.els) (decide (s.els.length > 0)) n=[105,102,32]++fmE s.value++[32,123,10]++lsT (n+1) s.body++zbC n++([125,32,101,108,115,101,32,123,10]++lsT (n+1) s.els++zbC n)++[125,10]:=by
   rw [hk3,decide_eq_true he];rfl
  rw [ev] at hb ⊢
  simp only [List.length_append,List.length_cons,List.length_nil,hli] at hb
  have c1:=zfF [105,102,32] t (by simp only [List.length_append,List.length_cons,List.length_nil];omega)
  have c2:=zc7 _ s.value (Nat.le_refl _) g3 hr.1.1.2 (t++[105,102,32]) (by simp only [List.length_append,List.length_cons,List.length_nil];omega)
  have c3:=zfF [32,123,10] (t++[105,102,32]++fmE s.value) (by simp only [List.length_append,List.length_cons,List.length_nil];omega)
  have c4:=hB (t++[105,102,32]++fmE s.value++[32,123,10]) (by simp only [List.length_append,List.length_cons,List.length_nil];omega)
  have c5:=zeH n (t++[105,102,32]++fmE s.value++[32,123,10]++lsT (n+1) s.body) (by omega) (by simp only [List.length_append,List.length_cons,List.length_nil];omega)
  have c6:=zfF [125,32,101,108,115,101,32,123,10] (t++[105,102,32]++fmE s.value++[32,123,10]++lsT (n+1) s.body++zbC n) (by simp only [List.length_append,List.length_cons,List.length_nil,hli];omega)
  have c7:=hE (t++[105,102,32]++fmE s.value++[32,123,10]++lsT (n+1) s.body++zbC n++[125,32,101,108,115,101,32,123,10]) (by simp only [List.length_append,List.length_cons,List.length_nil,hli];omega)
  have c8:=zeH n (t++[105,102,32]++fmE s.value++[32,123,10]++lsT (n+1) s.body++zbC n++[125,32,101,108,115,101,32,123,10]++lsT (n+1) s.els) (by omega) (by simp only [List.length_append,List.length_cons,List.length_nil,hli];omega)
  have c9:=zfF [125,10] (t++[105,102,32]++fmE s.value++[32,123,10]++lsT (n+1) s.body++zbC n++[125,32,101,108,115,101,32,123,10]++lsT (n+1) s.els++zbC n) (by simp only [List.length_append,List.length_cons,List.length_nil,hli];omega)
  rw [zaq] at c2
  have ef:t++[105,102,32]++fmE s.value++[32,123,10]++lsT (n+1) s.body++zbC n++[125,32,101,108,115,101,32,123,10]++lsT (n+1) s.els++zbC n++[125,10]=t++([105,102,32]++fmE s.value++[32,123,10]++lsT (n+1) s.body++zbC n++([125,32,101,108,115,101,32,123,10]++lsT (n+1) s.els++zbC n)++[125,10]):=by simp only [List.append_assoc]
  rw [ef] at c9
  refine zay (fun _=>2) 11 zwC ?_
  (repeat' (first|refine Va (fA5 @kz zo3 hk3 hw he') ?_|(with_reducible first|refine SB.c ?_ ?_<;>intro _|exact zac)|refine CK.dx [0,1] [2] zav c1 ?_|refine CK.dx [0,2] [3] zbH c2 ?_|refine CK.dx [0,3] [4] zav c3 ?_|refine CK.dx [0,4] [5] zeu c4 ?_|refine CK.dx [0,5] [6] zex c5 ?_|refine CK.dx [0,6] [7] zav c6 ?_|refine CK.dx [0,7] [8] zeu c7 ?_|refine CK.dx [0,8] [9] zex c8 ?_|refine CK.dx [0,9] [10] zav c9 ?_|with_reducible refine zab ?_|omega))
  (refine zaJ.mk [0,1,10] ?_ ?_<;>simp [kwr,zo3])
 ·have he':¬ ((s.els.length:Nat):Int) > 0:=by omega
  rcases hk with hk|hk
  ·have ev:fmS s.kind s.name (fmE s.place) (fmE s.value) (lsT (n+1) s.body) (lsT (n+1) s.els) (decide (s.els.length > 0)) n=[105,102,32]++fmE s.value++[32,123,10]++lsT (n+1) s.body++zbC n++[]++[125,10]:=by
    rw [hk,decide_eq_false he];rfl
   rw [ev,List.append_nil] at hb ⊢
   simp only [List.length_append,List.length_cons,List.length_nil,hli] at hb
   have c1:=zfF [105,102,32] t (by simp only [List.length_append,List.length_cons,List.length_nil];omega)
   have c2:=zc7 _ s.value (Nat.le_refl _) g3 hr.1.1.2 (t++[105,102,32]) (by simp only [List.length_append,List.length_cons,List.length_nil];omega)
   have c3:=zfF [32,123,10] (t++[105,102,32]++fmE s.value) (by simp only [List.length_append,List.length_cons,List.length_nil];omega)
   have c4:=hB (t++[105,102,32]++fmE s.value++[32,123,10]) (by simp only [List.length_append,List.length_cons,List.length_nil];omega)
   have c5:=zeH n (t++[105,102,32]++fmE s.value++[32,123,10]++lsT (n+1) s.body) (by omega) (by simp only [List.length_append,List.length_cons,List.length_nil];omega)
   have c9:=zfF [125,10] (t++[105,102,32]++fmE s.value++[32,123,10]++lsT (n+1) s.body++zbC n) (by simp only [List.length_append,List.length_cons,List.length_nil,hli];omega)
   rw [zaq] at c2
   have ef:t++[105,102,32]++fmE s.value++[32,123,10]++lsT (n+1) s.body++zbC n++[125,10]=t++([105,102,32]++fmE s.value++[32,123,10]++lsT (n+1) s.body++zbC n++[125,10]):=by simp only [List.append_assoc]
   rw [ef] at c9
   refine zay (fun _=>2) 11 zwC ?_
   (repeat' (first|refine Va (fA5 @kz zo3 hk hw he') ?_|(with_reducible first|refine SB.c ?_ ?_<;>intro _|exact zac)|refine CK.dx [0,1] [2] zav c1 ?_|refine CK.dx [0,2] [3] zbH c2 ?_|refine CK.dx [0,3] [4] zav c3 ?_|refine CK.dx [0,4] [5] zeu c4 ?_|refine CK.dx [0,5] [6] zex c5 ?_|refine CK.dx [0,6] [7] zav c9 ?_|with_reducible refine zab ?_|omega))
   (refine zaJ.mk [0,1,7] ?_ ?_<;>simp [kwr,zo3])
  ·have ev:fmS s.kind s.name (fmE s.place) (fmE s.value) (lsT (n+1) s.body) (lsT (n+1) s.els) (decide (s.els.length > 0)) n=[119,104,105,108,101,32]++fmE s.value++[32,123,10]++lsT (n+1) s.body++zbC n++[]++[125,10]:=by
    rw [hk,decide_eq_false he];rfl
   rw [ev,List.append_nil] at hb ⊢
   simp only [List.length_append,List.length_cons,List.length_nil,hli] at hb
   have c1:=zfF [119,104,105,108,101,32] t (by simp only [List.length_append,List.length_cons,List.length_nil];omega)
   have c2:=zc7 _ s.value (Nat.le_refl _) g3 hr.1.1.2 (t++[119,104,105,108,101,32]) (by simp only [List.length_append,List.length_cons,List.length_nil];omega)
   have c3:=zfF [32,123,10] (t++[119,104,105,108,101,32]++fmE s.value) (by simp only [List.length_append,List.length_cons,List.length_nil];omega)
   have c4:=hB (t++[119,104,105,108,101,32]++fmE s.value++[32,123,10]) (by simp only [List.length_append,List.length_cons,List.length_nil];omega)
   have c5:=zeH n (t++[119,104,105,108,101,32]++fmE s.value++[32,123,10]++lsT (n+1) s.body) (by omega) (by simp only [List.length_append,List.length_cons,List.length_nil];omega)
   have c9:=zfF [125,10] (t++[119,104,105,108,101,32]++fmE s.value++[32,123,10]++lsT (n+1) s.body++zbC n) (by simp only [List.length_append,List.length_cons,List.length_nil,hli];omega)
   rw [zaq] at c2
   have ef:t++[119,104,105,108,101,32]++fmE s.value++[32,123,10]++lsT (n+1) s.body++zbC n++[125,10]=t++([119,104,105,108,101,32]++fmE s.value++[32,123,10]++lsT (n+1) s.body++zbC n++[125,10]):=by simp only [List.append_assoc]
   rw [ef] at c9
   refine zay (fun _=>2) 11 zwC ?_
   (repeat' (first|refine Va (fA5 @kz zo3 hk hw he') ?_|(with_reducible first|refine SB.c ?_ ?_<;>intro _|exact zac)|refine CK.dx [0,1] [2] zav c1 ?_|refine CK.dx [0,2] [3] zbH c2 ?_|refine CK.dx [0,3] [4] zav c3 ?_|refine CK.dx [0,4] [5] zeu c4 ?_|refine CK.dx [0,5] [6] zex c5 ?_|refine CK.dx [0,6] [7] zav c9 ?_|with_reducible refine zab ?_|omega))
   (refine zaJ.mk [0,1,7] ?_ ?_<;>simp [kwr,zo3])
theorem zue (n:Nat) (hn:n≤10000000) (s:Sm) (hg:zdJ s=true) (hr:rgS s=true) (hz:szS s≤1000000) (hB:LW3 (n+1) s.body) (hE:LW3 (n+1) s.els):SW3 n s:=by
 intro t hb
 have hN:=zud n hn s hg hr hz hB hE
 obtain ⟨g1,g2,g3,g4,g5,g6⟩:=zge hg
 rw [znW] at hr
 simp only [Bool.and_eq_true] at hr
 have hse:=zar s
 have hk:s.kind=1∨s.kind=2∨(s.kind=3∨s.kind=4)∨s.kind=5∨s.kind=6:=by omega
 rcases hk with hk|hk|hk|hk|hk
 ·have ev:stT n s=s.name++[32,61,32]++fmE s.value++[59,10]:=by rw [zju,hk];rfl
  rw [ev] at hb ⊢
  rw [hse]
  simp only [List.length_append,List.length_cons,List.length_nil] at hb
  have c0:=zDj s.name [32,61,32] (t) (by simp only [List.length_append,List.length_cons,List.length_nil];omega)
  have c1:=zc7 _ s.value (Nat.le_refl _) g3 hr.1.1.2 (t++(s.name++[32,61,32])) (by simp only [List.length_append,List.length_cons,List.length_nil];omega)
  rw [zaq] at c1
  have c2:=zfF [59,10] (t++(s.name++[32,61,32])++fmE s.value) (by simp only [List.length_append,List.length_cons,List.length_nil];omega)
  have ef:t++(s.name++[32,61,32])++fmE s.value++[59,10]=t++(s.name++[32,61,32]++fmE s.value++[59,10]):=by simp only [List.append_assoc]
  rw [ef] at c2
  refine zay (fun _=>2) 7 zqP ?_
  (repeat' (first|refine Va (fA3 @kz zi1 hk) ?_|(with_reducible first|refine SB.c ?_ ?_<;>intro _|exact zac)|refine CK.dx [0,1] [2] zav c0 ?_|refine CK.dx [0,2] [3] zbH c1 ?_|refine CK.dx [0,3] [4] zav c2 ?_|with_reducible refine zab ?_|omega))
  (refine zaJ.mk [0,1,4] ?_ ?_<;>simp [kwr,zi1])
 ·have ev:stT n s=s.name++[91]++fmE s.place++[93,32,61,32]++fmE s.value++[59,10]:=by rw [zju,hk];rfl
  rw [ev] at hb ⊢
  rw [hse]
  simp only [List.length_append,List.length_cons,List.length_nil] at hb
  have c0:=zDj s.name [91] (t) (by simp only [List.length_append,List.length_cons,List.length_nil];omega)
  have c1:=zc7 _ s.place (Nat.le_refl _) (g2 (by omega)) hr.1.1.1 (t++(s.name++[91])) (by simp only [List.length_append,List.length_cons,List.length_nil];omega)
  rw [zaq] at c1
  have c2:=zfF [93,32,61,32] (t++(s.name++[91])++fmE s.place) (by simp only [List.length_append,List.length_cons,List.length_nil];omega)
  have c3:=zc7 _ s.value (Nat.le_refl _) g3 hr.1.1.2 (t++(s.name++[91])++fmE s.place++[93,32,61,32]) (by simp only [List.length_append,List.length_cons,List.length_nil];omega)
  rw [zaq] at c3
  have c4:=zfF [59,10] (t++(s.name++[91])++fmE s.place++[93,32,61,32]++fmE s.value) (by simp only [List.length_append,List.length_cons,List.length_nil];omega)
  have ef:t++(s.name++[91])++fmE s.place++[93,32,61,32]++fmE s.value++[59,10]=t++(s.name++[91]++fmE s.place++[93,32,61,32]++fmE s.value++[59,10]):=by simp only [List.append_assoc]
  rw [ef] at c4
  refine zay (fun _=>2) 7 zqP ?_
  (repeat' (first|refine Va (fA3 @kz zi1 hk) ?_|(with_reducible first|refine SB.c ?_ ?_<;>intro _|exact zac)|refine CK.dx [0,1] [2] zav c0 ?_|refine CK.dx [0,2] [3] zbH c1 ?_|refine CK.dx [0,3] [4] zav c2 ?_|refine CK.dx [0,4] [5] zbH c3 ?_|refine CK.dx [0,5] [6] zav c4 ?_|with_reducible refine zab ?_|omega))
  (refine zaJ.mk [0,1,6] ?_ ?_<;>simp [kwr,zi1])
 ·have c:=hN hk t hb
  rw [hse] at c ⊢
  rcases hk with hk|hk
  all_goals (
   rw [hk] at c
   refine zay (fun _=>2) 7 zqP ?_
   (repeat' (first|refine Va (fA3 @kz zi1 hk) ?_|(with_reducible first|refine SB.c ?_ ?_<;>intro _|exact zac)|refine CK.dx [0,1] [2] zqZ c ?_|with_reducible refine zab ?_|omega))
   (refine zaJ.mk [0,1,2] ?_ ?_<;>simp [kwr,zi1]))
 ·have ev:stT n s=[115,101,110,100,32]++fmE s.place++[44,32]++fmE s.value++[59,10]:=by rw [zju,hk];rfl
  rw [ev] at hb ⊢
  rw [hse]
  simp only [List.length_append,List.length_cons,List.length_nil] at hb
  have c0:=zfF [115,101,110,100,32] (t) (by simp only [List.length_append,List.length_cons,List.length_nil];omega)
  have c1:=zc7 _ s.place (Nat.le_refl _) (g2 (by omega)) hr.1.1.1 (t++[115,101,110,100,32]) (by simp only [List.length_append,List.length_cons,List.length_nil];omega)
  rw [zaq] at c1
  have c2:=zfF [44,32] (t++[115,101,110,100,32]++fmE s.place) (by simp only [List.length_append,List.length_cons,List.length_nil];omega)
  have c3:=zc7 _ s.value (Nat.le_refl _) g3 hr.1.1.2 (t++[115,101,110,100,32]++fmE s.place++[44,32]) (by simp only [List.length_append,List.length_cons,List.length_nil];omega)
  rw [zaq] at c3
  have c4:=zfF [59,10] (t++[115,101,110,100,32]++fmE s.place++[44,32]++fmE s.value) (by simp only [List.length_append,List.length_cons,List.length_nil];omega)
  have ef:t++[115,101,110,100,32]++fmE s.place++[44,32]++fmE s.value++[59,10]=t++([115,101,110,100,32]++fmE s.place++[44,32]++fmE s.value++[59,10]):=by simp only [List.append_assoc]
  rw [ef] at c4
  refine zay (fun _=>2) 7 zqP ?_
  (repeat' (first|refine Va (fA3 @kz zi1 hk) ?_|(with_reducible first|refine SB.c ?_ ?_<;>intro _|exact zac)|refine CK.dx [0,1] [2] zav c0 ?_|refine CK.dx [0,2] [3] zbH c1 ?_|refine CK.dx [0,3] [4] zav c2 ?_|refine CK.dx [0,4] [5] zbH c3 ?_|refine CK.dx [0,5] [6] zav c4 ?_|with_reducible refine zab ?_|omega))
  (refine zaJ.mk [0,1,6] ?_ ?_<;>simp [kwr,zi1])
 ·have ev:stT n s=[111,117,116,112,117,116,32]++fmE s.value++[59,10]:=by rw [zju,hk];rfl
  rw [ev] at hb ⊢
  rw [hse]
  simp only [List.length_append,List.length_cons,List.length_nil] at hb
  have c0:=zfF [111,117,116,112,117,116,32] (t) (by simp only [List.length_append,List.length_cons,List.length_nil];omega)
  have c1:=zc7 _ s.value (Nat.le_refl _) g3 hr.1.1.2 (t++[111,117,116,112,117,116,32]) (by simp only [List.length_append,List.length_cons,List.length_nil];omega)
  rw [zaq] at c1
  have c2:=zfF [59,10] (t++[111,117,116,112,117,116,32]++fmE s.value) (by simp only [List.length_append,List.length_cons,List.length_nil];omega)
  have ef:t++[111,117,116,112,117,116,32]++fmE s.value++[59,10]=t++([111,117,116,112,117,116,32]++fmE s.value++[59,10]):=by simp only [List.append_assoc]
  rw [ef] at c2
  refine zay (fun _=>2) 7 zqP ?_
  (repeat' (first|refine Va (fA3 @kz zi1 hk) ?_|(with_reducible first|refine SB.c ?_ ?_<;>intro _|exact zac)|refine CK.dx [0,1] [2] zav c0 ?_|refine CK.dx [0,2] [3] zbH c1 ?_|refine CK.dx [0,3] [4] zav c2 ?_|with_reducible refine zab ?_|omega))
  (refine zaJ.mk [0,1,4] ?_ ?_<;>simp [kwr,zi1])
theorem zpf (m:Nat):m≤1000000→∀ (n:Nat) (l:List Sm),zbx l≤m→n+m≤10000000→zao l=true→zg2 l=true→LW3 n l:=by
 induction m with
 |zero=>intro hm n l hl hn hg hr;exact zof n (by omega) l (by have:=zbW l;omega) (fun s hs=>by have:=za1 l s hs;have:=zcW s;omega)
 |succ m ih=>
  intro hm n l hl hn hg hr
  refine zof n (by omega) l (by have:=zbW l;omega) (fun s hs=>?_)
  have h1:=za1 l s hs
  have h2:=zeA s
  have h3:=zbo s.place
  have hgs:=zd0 hg hs
  have hrs:=zkw hr hs
  obtain ⟨_,_,_,g4,g5,_⟩:=zge hgs
  have hr2:=hrs
  rw [znW] at hr2
  simp only [Bool.and_eq_true] at hr2
  exact zue n (by omega) s hgs hrs (by omega) (ih (by omega) (n+1) s.body (by omega) (by omega) g4 hr2.1.2) (ih (by omega) (n+1) s.els (by omega) (by omega) g5 hr2.2)
theorem zuf (l:List Sm) (hl:zbx l≤1000000) (hg:zao l=true) (hr:zg2 l=true) (t:List UInt8) (hb:t.length+(lsT 1 l).length≤100000000000000):AC Tryz.prog gl 116 [.ref 0 0,.pv (.slice (l.map zah)),.pv (.int .i64 1)] (wrO t) (.tup []) (wrQ (t++lsT 1 l)):=
 zpf _ hl 1 l (Nat.le_refl _) (by omega) hg hr t hb
end Go.Proofs.YtfinhhblcdkpgaaGreatDoor
