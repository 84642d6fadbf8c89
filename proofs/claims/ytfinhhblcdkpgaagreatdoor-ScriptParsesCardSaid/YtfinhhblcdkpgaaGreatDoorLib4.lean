/- A sound walk of the program by abstract states, part 4: its theorems have no condition beyond what they state. -/
import Derived.Test.YtfinhhblcdkpgaaGreatDoorLib3
import Derived.Test.YtfinhhblcdkpgaaGreatDoorLib2
import Derived.ChangeSame
import Derived.ChangeStays
import Derived.WideKeyArgs
import Derived.Deep.Slices
import Derived.ProofKit
import Derived.WalkKit
import Derived.OpenShut
import Derived.ChangeMaps5
import Derived.ChangeSlices
import Derived.HandedShaped
import Derived.Handed
import Derived.Shelf.Vars
set_option maxRecDepth 100000
set_option maxHeartbeats 64000000
set_option linter.unusedSimpArgs false
set_option linter.unusedVariables false
set_option linter.defProp false
namespace Go.Abs
open Go
theorem zEh (xs:List UInt8) (a:Nat) (n c:Int) (h:0<n) (hn:n≤1000) (hc:-1000≤c) (hc':c≤1000):zf4 (c+(nxt xs a n).1)=true:=by
 have:=za9 xs a n h
 simp only [zf4,Bool.and_eq_true,decide_eq_true_eq]
 omega
theorem zHI (xs:List UInt8) (a:Nat) (n:Int) (h:0<n) (hn:n≤1000):zf4 (nxt xs a n).1=true:=by
 have:=za9 xs a n h
 simp only [zf4,Bool.and_eq_true,decide_eq_true_eq]
 omega
theorem zKf:zf4 0=true:=by decide
theorem zHJ (op v:Int) (nm:List UInt8) (l:List Ex):rgE (exL op v nm l)=(zf4 v&&zsC l):=rfl
theorem zEi:zsC []=true:=rfl
theorem zEj (e:Ex):zsC [e]=rgE e:=by simp [zsC]
theorem zEk (a b:Ex):zsC [a,b]=(rgE a&&rgE b):=by simp [zsC]
theorem zkr (xs:List UInt8) (rec:Nat→Ex × Nat) (small:Bool) (a:Nat) (hr:∀ a,rgE (rec a).1=true):rgE (zdg xs rec small a).1=true:=by
 unfold zdg
 repeat' split
 all_goals simp only [zHJ,zEi,zEj,zEk,zKf,hr,Bool.and_true,Bool.true_and]
 all_goals first|exact zHI _ _ _ (by omega) (by omega)|exact zEh _ _ _ _ (by omega) (by omega) (by omega) (by omega)
theorem zqY (xs:List UInt8):∀ (d a:Nat),rgE (zbk xs d a).1=true
 |0,a=>zkr xs _ _ a (fun a=>rfl)
 |d+1,a=>zkr xs _ _ a (fun a=>zqY xs d a)
theorem zHK (kind:Int) (nm:List UInt8) (p v:Ex) (b e:List Sm):rgS (smL kind nm p v b e)=(rgE p&&rgE v&&zkC b&&zkC e):=rfl
theorem zEl:zkC []=true:=rfl
theorem zHL:rgE ex0=true:=rfl
theorem zpr (xs:List UInt8) (rec:Int→Nat→List Sm × Nat) (small:Bool) (a:Nat) (hr:∀ m a,zkC (rec m a).1=true):rgS (zb0 xs rec small a).1=true:=by
 unfold zb0
 dsimp only
 repeat' split
 all_goals simp only [zHK,zEl,zHL,zqY,hr,Bool.and_true,Bool.true_and]
theorem zfM (xs:List UInt8) (rec:Int→Nat→List Sm × Nat) (small:Bool) (hr:∀ m a,zkC (rec m a).1=true):∀ (n a:Nat),zkC (zbm xs rec small n a).1=true
 |0,a=>rfl
 |n+1,a=>by simp only [zbm,zkC,zpr xs rec small a hr,zfM xs rec small hr n,Bool.and_true]
theorem zn6 (xs:List UInt8):∀ (d:Nat) (m:Int) (a:Nat),zkC (zcJ xs d m a).1=true
 |0,m,a=>zfM xs _ _ (fun _ _=>rfl) _ _
 |d+1,m,a=>zfM xs _ _ (fun m a=>zn6 xs d m a) _ _
theorem zps (xs:List UInt8) (a:Nat):rgP (zcv xs a).1=true:=by
 unfold zcv rgP
 dsimp only
 have h1:=za9 xs a 7 (by omega)
 have h2:=za9 xs (nxt xs a 7).2 5 (by omega)
 have h3:=za9 xs (nxt xs (nxt xs a 7).2 5).2 3 (by omega)
 simp only [zn6,Bool.and_true,zxj,List.all_cons,List.all_nil,rgV,zf4,Bool.and_eq_true,decide_eq_true_eq]
 omega
def zdo (xs:List UInt8):Nat→Nat→List PgD→List PgD × Nat
 |0,a,ps=>(ps,a)
 |n+1,a,ps=>zdo xs n (zcv xs a).2 (ps++[(zcv xs a).1])
def zpt (xs:List UInt8) (a:Nat):StD × Nat:=
 (zej (1+(nxt xs a 14).1) [(zhS xs (nxt xs a 14).2).1,(zhS xs (zhS xs (nxt xs a 14).2).2).1],(zhS xs (zhS xs (nxt xs a 14).2).2).2)
def zfa (xs:List UInt8):Nat→Nat→List StD→List StD × Nat
 |0,a,l=>(l,a)
 |n+1,a,l=>zfa xs n (zpt xs a).2 (l++[(zpt xs a).1])
structure DrD where
 ps:List PgD
 protocol:Int
 faults:Int
 l:List StD
 at_:Nat
def zmG (xs:List UInt8):DrD:=
 ⟨(zdo xs (1+(nxt xs 0 3).1).toNat (nxt xs 0 3).2 []).1,
 1+(nxt xs (zdo xs (1+(nxt xs 0 3).1).toNat (nxt xs 0 3).2 []).2 8).1,
 (zhS xs (nxt xs (zdo xs (1+(nxt xs 0 3).1).toNat (nxt xs 0 3).2 []).2 8).2).1,
 (zfa xs (nxt xs (zhS xs (nxt xs (zdo xs (1+(nxt xs 0 3).1).toNat (nxt xs 0 3).2 []).2 8).2).2 14).1.toNat (nxt xs (zhS xs (nxt xs (zdo xs (1+(nxt xs 0 3).1).toNat (nxt xs 0 3).2 []).2 8).2).2 14).2 []).1,
 (zfa xs (nxt xs (zhS xs (nxt xs (zdo xs (1+(nxt xs 0 3).1).toNat (nxt xs 0 3).2 []).2 8).2).2 14).1.toNat (nxt xs (zhS xs (nxt xs (zdo xs (1+(nxt xs 0 3).1).toNat (nxt xs 0 3).2 []).2 8).2).2 14).2 []).2⟩
theorem zxR (xs:List UInt8) (a:Nat) (h:a≤xs.length):(zpt xs a).2≤xs.length:=zic _ _ (zic _ _ (za0 _ _ _ h))
theorem zks (xs:List UInt8):∀ (n a:Nat) (ps:List PgD),a≤xs.length→(zdo xs n a ps).2≤xs.length
 |0,_,_,h=>h
 |n+1,a,ps,h=>by rw [zdo];exact zks xs n _ _ (zj6 xs a h)
theorem zn7 (xs:List UInt8):∀ (n a:Nat) (l:List StD),a≤xs.length→(zfa xs n a l).2≤xs.length
 |0,_,_,h=>h
 |n+1,a,l,h=>by rw [zfa];exact zn7 xs n _ _ (zxR xs a h)
theorem zn8 (xs:List UInt8):∀ (n a:Nat) (ps:List PgD),(∀ p ∈ ps,szP p≤100000∧rgP p=true)→(∀ p ∈ (zdo xs n a ps).1,szP p≤100000∧rgP p=true)∧(zdo xs n a ps).1.length=ps.length+n
 |0,_,_,h=>⟨h,rfl⟩
 |n+1,a,ps,h=>by
  rw [zdo]
  have:=zn8 xs n (zcv xs a).2 (ps++[(zcv xs a).1]) (by
   intro p hp
   rcases List.mem_append.1 hp with hp|hp
   ·exact h p hp
   ·simp at hp;subst hp;exact ⟨zoW xs a,zps xs a⟩)
  refine ⟨this.1,?_⟩
  rw [this.2]
  simp
  omega
def zEX (x:StD):Prop:=zqv x=true∧zeB x=true∧1≤x.kind∧x.kind≤14
theorem zxS (xs:List UInt8) (a:Nat):zEX (zpt xs a).1:=by
 have h:=za9 xs a 14 (by omega)
 have r1:=zoX xs (nxt xs a 14).2
 have r2:=zoX xs (zhS xs (nxt xs a 14).2).2
 obtain ⟨z1,z2⟩:=zuv (1+(nxt xs a 14).1) [(zhS xs (nxt xs a 14).2).1,(zhS xs (zhS xs (nxt xs a 14).2).2).1]
 refine ⟨?_,z1,by show 1≤(zej _ _).kind;rw [z2];omega,by show (zej _ _).kind≤14;rw [z2];omega⟩
 refine zD5 _ _ (by simp [zf4];omega) ?_
 intro n hn
 simp at hn
 rcases hn with rfl|rfl
 ·simp [zf4];omega
 ·simp [zf4];omega
theorem zn9 (xs:List UInt8):∀ (n a:Nat) (l:List StD),(∀ x ∈ l,zEX x)→(∀ x ∈ (zfa xs n a l).1,zEX x)∧(zfa xs n a l).1.length=l.length+n
 |0,_,_,h=>⟨h,rfl⟩
 |n+1,a,l,h=>by
  rw [zfa]
  have:=zn9 xs n (zpt xs a).2 (l++[(zpt xs a).1]) (by
   intro p hp
   rcases List.mem_append.1 hp with hp|hp
   ·exact h p hp
   ·simp at hp;subst hp;exact zxS xs a)
  refine ⟨this.1,?_⟩
  rw [this.2]
  simp
  omega
structure DrOk (xs:List UInt8) (d:DrD):Prop where
 hp:∀ p ∈ d.ps,szP p≤1000000∧rgP p=true
 h1:1≤d.ps.length
 h3:d.ps.length≤3
 q1:1≤d.protocol
 q8:d.protocol≤8
 f:-9223372036854775808≤d.faults∧d.faults≤9223372036854775807
 hl:∀ x ∈ d.l,zEX x
 h14:d.l.length≤13
 ha:d.at_≤xs.length
theorem zxT (xs:List UInt8):DrOk xs (zmG xs):=by
 have n3:=za9 xs 0 3 (by omega)
 have l3:=za0 xs 0 3 (Nat.zero_le _)
 obtain ⟨p1,p2⟩:=zn8 xs (1+(nxt xs 0 3).1).toNat (nxt xs 0 3).2 [] (by simp)
 have lp:=zks xs (1+(nxt xs 0 3).1).toNat (nxt xs 0 3).2 [] l3
 unfold zmG
 generalize zdo xs (1+(nxt xs 0 3).1).toNat (nxt xs 0 3).2 []=P at *
 have n8:=za9 xs P.2 8 (by omega)
 have l8:=za0 xs P.2 8 lp
 generalize nxt xs P.2 8=Q at *
 have hf:=zoX xs Q.2
 have lf:=zic xs Q.2 l8
 generalize zhS xs Q.2=F at *
 have n14:=za9 xs F.2 14 (by omega)
 have l14:=za0 xs F.2 14 lf
 generalize nxt xs F.2 14=N at *
 obtain ⟨s1,s2⟩:=zn9 xs N.1.toNat N.2 [] (by simp)
 have ls:=zn7 xs N.1.toNat N.2 [] l14
 exact ⟨fun p hp=>by have:=p1 p hp;exact ⟨by omega,this.2⟩,by simp at p2 ⊢;omega,by simp at p2 ⊢;omega,by show 1≤1+Q.1;omega,by show 1+Q.1≤8;omega,hf,s1,by simp at s2 ⊢;omega,ls⟩
structure DrI (xs:List UInt8) (F:List PgD × Nat) where
 n:Nat
 a:Nat
 ps:List PgD
 ha:a≤xs.length
 hn:ps.length+n≤3
 eq:zdo xs n a ps=F
structure DsI (xs:List UInt8) (F:List StD × Nat) where
 n:Nat
 a:Nat
 l:List StD
 ha:a≤xs.length
 hn:l.length+n≤14
 eq:zfa xs n a l=F
def zoa (s:List UInt8):Nat→Nat
 |0=>0
 |k+1=>if s.getD k 0=10 then k+1 else zoa s k
theorem zq1 (s:List UInt8):∀ k,zoa s k≤k
 |0=>Nat.le_refl _
 |k+1=>by
  rw [zoa]
  split
  ·exact Nat.le_refl _
  ·have:=zq1 s k;omega
def toF (s:List UInt8) (k:Nat):Nat:=if h:k<s.length then (if s.getD k 0=10 then k else toF s (k+1)) else k
termination_by s.length - k
theorem zpu {s:List UInt8} {k:Nat} (h:k<s.length) (h1:s.getD k 0=10):toF s k=k:=by rw [toF,dif_pos h,if_pos h1]
theorem zu9 {s:List UInt8} {k:Nat} (h:k<s.length) (h1:s.getD k 0≠10):toF s k=toF s (k+1):=by rw [toF,dif_pos h,if_neg h1]
theorem zmH {s:List UInt8} {k:Nat} (h:¬ k<s.length):toF s k=k:=by rw [toF,dif_neg h]
theorem zyy {s:List UInt8}:∀ (d k:Nat),s.length - k≤d→k≤s.length→k≤toF s k∧toF s k≤s.length
 |0,k,h,hk=>by rw [zmH (by omega)];omega
 |d+1,k,h,hk=>by
  by_cases hl:k<s.length
  ·by_cases h1:s.getD k 0=10
   ·rw [zpu hl h1];omega
   ·rw [zu9 hl h1]
    have:=zyy (s:=s) d (k+1) (by omega) (by omega)
    omega
  ·rw [zmH hl];omega
def spT:List (List UInt8):=[[32],[10],[48],[45],[49],[120],[101,110,100,10],[99,111,109,109,105,116,10],[],[121,101,115],[57,50,50,51,51,55,50,48,51,54,56,53,52,55,55,53,56,48,56]]
theorem zAZ (i:Nat) (h:i<11):(spT.map fun w=>[PVal.str w]).getD i []=[.str (spT.getD i [])]∧(spT.getD i []).length≤19:=by
 have:i=0∨i=1∨i=2∨i=3∨i=4∨i=5∨i=6∨i=7∨i=8∨i=9∨i=10:=by omega
 rcases this with rfl|rfl|rfl|rfl|rfl|rfl|rfl|rfl|rfl|rfl|rfl<;>exact ⟨rfl,by decide⟩
theorem zkt {line:List UInt8} {k:Int} {l:List (List UInt8)} (hs:zal 32 line=wdF k::l) (h1:1≤k) (h2:k≤14) :
  zcW line=if ((l.take (nfF k)).all fun w=>(zaX w).2)=true then (if line=zbf (zej k ((l.take (nfF k)).map fun w=>(zaX w).1)) then (zej k ((l.take (nfF k)).map fun w=>(zaX w).1),true) else (st0,false)) else (st0,false):=by
 unfold zcW
 rw [←zxp line (wdF k) l hs]
 unfold znM
 rw [zAz k h1 h2,if_neg (by omega)]
 cases ha:((l.take (nfF k)).all fun w=>(zaX w).2)
 ·rw [if_pos (.inl rfl),if_neg (by simp)]
 ·rw [if_pos rfl]
  by_cases he:line=zbf (zej k ((l.take (nfF k)).map fun w=>(zaX w).1))
  ·rw [if_neg (by rintro (h|h);cases h;exact h he),if_pos he]
  ·rw [if_pos (.inr he),if_neg he]
theorem zmI {line:List UInt8} {k:Int} {l:List (List UInt8)} (hs:zal 32 line=wdF k::l) (h1:1≤k) (h2:k≤14) (h:nfF k=0∨l=[]):zcW line=if line=zbf ⟨k,0,0,0⟩ then (⟨k,0,0,0⟩,true) else (st0,false):=by
 rw [zkt hs h1 h2]
 have:l.take (nfF k)=[]:=by
  rcases h with h|h
  ·rw [h];simp
  ·rw [h];simp
 rw [this]
 have hm:zej k []=⟨k,0,0,0⟩:=by unfold zej;split<;>rfl
 simp [hm]
theorem zA0 {line b:List UInt8} {k:Int} {r:List (List UInt8)} (hs:zal 32 line=wdF k::b::r) (h1:1≤k) (h2:k≤14) (h:shF k=1):zcW line=if (zaX b).2=true then (if line=zbf ⟨k,0,(zaX b).1,0⟩ then (⟨k,0,(zaX b).1,0⟩,true) else (st0,false)) else (st0,false):=by
 rw [zkt hs h1 h2]
 simp [nfF,zej,h]
theorem zA1 {line b:List UInt8} {k:Int} {r:List (List UInt8)} (hs:zal 32 line=wdF k::b::r) (h1:1≤k) (h2:k≤14) (h:shF k=3):zcW line=if (zaX b).2=true then (if line=zbf ⟨k,(zaX b).1,0,0⟩ then (⟨k,(zaX b).1,0,0⟩,true) else (st0,false)) else (st0,false):=by
 rw [zkt hs h1 h2]
 simp [nfF,zej,h]
theorem zA2 {line b:List UInt8} {k:Int} (hs:zal 32 line=[wdF k,b]) (h1:1≤k) (h2:k≤14) (h:shF k=2):zcW line=if (zaX b).2=true then (if line=zbf ⟨k,(zaX b).1,0,0⟩ then (⟨k,(zaX b).1,0,0⟩,true) else (st0,false)) else (st0,false):=by
 rw [zkt hs h1 h2]
 simp [nfF,zej,h]
theorem zxU {line b c:List UInt8} {k:Int} {r:List (List UInt8)} (hs:zal 32 line=wdF k::b::c::r) (h1:1≤k) (h2:k≤14) (h:shF k=2):zcW line=if (zaX b).2=true then (if (zaX c).2=true then (if line=zbf ⟨k,(zaX b).1,0,(zaX c).1⟩ then (⟨k,(zaX b).1,0,(zaX c).1⟩,true) else (st0,false)) else (st0,false)) else (st0,false):=by
 rw [zkt hs h1 h2]
 cases hb:(zaX b).2<;>cases hc:(zaX c).2<;>simp [nfF,zej,h,hb,hc]
theorem zfN {k p q v:Int} (hk:1≤k∧k≤14) (h1:-9223372036854775808≤p∧p≤9223372036854775807) (h2:-9223372036854775808≤q∧q≤9223372036854775807) (h3:-9223372036854775808≤v∧v≤9223372036854775807):zqv ⟨k,p,q,v⟩=true:=by
 simp [zqv,zf4]
 omega
theorem zA3 (line:List UInt8) (h:(zal 32 line).length≠3):zel line=(0,0,false):=by
 unfold zel
 match hs:zal 32 line with
 |[]=>rfl
 |[a]=>rfl
 |[a,b]=>rfl
 |[a,b,c]=>rw [hs] at h;exact absurd rfl h
 |a::b::c::d::r=>rfl
theorem zEm {line a b c:List UInt8} (hs:zal 32 line=[a,b,c]):zel line=if a=[112,114,111,116,111,99,111,108]∧b ∈ zmQ.tail then ((zmQ.idxOf b:Int),(zaX c).1,(zaX c).2) else (0,0,false):=by
 unfold zel;rw [hs]
def zBa (c:CdD):Prop:=CdSz c 1000000000
theorem zHP:zBa cd0:=⟨by simp [cd0],by simp [cd0,zbz],by simp [cd0,zbz],by simp [cd0,zbz],by simp [cd0,zbz]⟩
theorem zxZ (b:List UInt8):zBa (zek b).1:=by
 unfold zek
 split
 ·exact zHP
 ·rw [zix]
  have h:=zpj (zgR b).1
  have hs:=zo7 b
  exact ⟨h.1,by have:=h.2;omega,by have:=h.3;omega,by have:=h.4;omega,by have:=h.5;omega⟩
theorem zoe:∀ (f:Nat) (r:List (List UInt8)) (a:Int) (cs cs':List CdD) (r':List (List UInt8)) (a':Int),(∀ c ∈ cs,zBa c)→cs.length≤5→zcr f r a cs=.ok cs' r' a'→(∀ c ∈ cs',zBa c)∧cs'.length≤5
 |0,_,_,_,_,_,_,_,_,h=>by rw [zcr] at h;cases h
 |f+1,[],_,_,_,_,_,_,_,h=>by rw [zcr] at h;cases h
 |f+1,l::r,a,cs,cs',r',a',hc,hl,h=>by
  rw [zcr] at h
  split at h
  ·split at h
   ·cases h
   ·split at h
    ·cases h
    ·rename_i h5 _ b r2 hb
     split at h
     ·cases h
     ·refine zoe f _ _ _ _ _ _ ?_ ?_ h
      ·intro c hm
       rcases List.mem_append.1 hm with hm|hm
       ·exact hc c hm
       ·simp at hm;subst hm;exact zxZ b
      ·simp;omega
  ·split at h
   ·cases h;exact ⟨hc,hl⟩
   ·cases h
theorem zlw (torn:Bool):∀ (r:List (List UInt8)) (a:Int) (xs:List StD),xs.length≤400→(zbX torn r a xs).1.length≤400
 |[],a,xs,h=>by
  rw [zbX]
  split
  ·simp
  ·exact h
 |l::r,a,xs,h=>by
  rw [zbX]
  split
  ·simp
  ·split
   ·simp
   ·exact zlw torn r _ _ (by simp;omega)
def zHQ (q:ScD × Int × Int):Prop:=(∀ c ∈ q.1.codes,zBa c)∧q.1.codes.length≤5∧q.1.steps.length≤400
theorem zx0 (a e:Int):zHQ (sc0,a,e):=⟨fun c h=>(by cases h),by simp [sc0],by simp [sc0]⟩
theorem zvk (ls:List (List UInt8)) (torn:Bool):zHQ (zem ls torn):=by
 unfold zem
 split
 ·exact zx0 _ _
 ·split
  ·exact zx0 _ _
  ·rename_i cs r a hp
   split
   ·exact zx0 _ _
   ·obtain ⟨h1,h2⟩:=zoe _ _ _ _ _ _ _ (by simp) (by simp) hp
    exact ⟨h1,h2,zlw _ _ _ _ (by simp)⟩
theorem zx1 (s:List UInt8):zHQ (zmn s):=by
 rw [zph]
 split
 ·exact zx0 _ _
 ·exact zvk _ _
theorem zpD (ps:List PgD) (p f:Int) (l:List StD):(zcC ps p f l).1.length≤65536:=by
 unfold zcC
 split
 ·simp
 ·split
  ·simp
  ·split
   ·simp
   ·split
    ·simp
    ·split
     ·simp
     ·rename_i h;simp only;omega
open Go Go.ChangeShapes Go.WideShapes Go.ChangeAt Go.RowKit
def zgr (W:World):Mem:=fun b i=>W.cell? ⟨b,i,none⟩
structure Held (W W':World):Prop where
 os:W'.os=W.os
 output:W'.output=W.output
 size:W.heap.size≤W'.heap.size
 same:∀ b,b<W.heap.size→W'.heap[b]?=W.heap[b]?
theorem zx2 {P:Program} {gl:Nat→Option (List PVal)} {f:FuncId} {W:World} (pvs:List PVal) (vargs:List Value) (hac:AC P gl f (pvs.map .pv) [] (.pv (.bool true)) [])
  (hgl:GOK ⟨fun _=>none,gl,fun _=>0,0⟩ (zgr W)) (hex:∀ b cs,gl b=some cs→cs≠[]→∃ vals T l,W.heap[b]?=some (.cells vals T l)∧vals.size=cs.length) (hlen:vargs.length=pvs.length) (hrd:∀ i,i<pvs.length→Rd (zgr W) (pvs.getD i .nilptr) (vargs.getD i undef)) :
  Calls P f vargs.toArray W fun e W'=>e=.returned (.bool true)∧Held W W':=by
 have hR:Rel ⟨W,zgr W,zaU ⟨fun _=>0,fun _=>0,fun _=>false⟩ [],[]⟩ ⟨pvs.map .pv,[]⟩ ⟨fun _=>0,fun _=>0,fun _=>false⟩ (zgr W) ⟨vargs.toArray,[]⟩ W:=by
  refine ⟨by simpa using hlen,rfl,fun i hi=>?_,?_,?_,?_,fun b i u h=>h,Mem.le_refl _,fun _ _ _ _=>rfl,Nat.le_refl _,fun _ _ _=>rfl,?_,rfl,rfl,rfl⟩
  ·simp only [List.length_map] at hi
   have h1:=hrd i hi
   have e1:St.slot ⟨pvs.map .pv,[]⟩ i=.pv (pvs.getD i .nilptr):=by simp [St.slot,List.getD,hi]
   have e2:vargs.toArray.getD i undef=vargs.getD i undef:=by simp [Array.getD,List.getD,hlen,hi]
   rw [e1]
   show V _ _ _ _ (vargs.toArray.getD i undef)
   rw [e2]
   exact .pv h1
  ·intro id o h;simp [St.obj] at h
  ·intro id id' o o' b h;simp [St.obj] at h
  ·intro id o b h;simp [St.obj] at h
  ·intro id o b h;simp [St.obj] at h
 refine (hac W (zgr W) _ vargs hR ⟨hgl,fun b cs hb hne=>⟨by rintro ⟨id,ob,h,_⟩;simp at h,hex b cs hb hne⟩⟩).mono fun e W' ⟨v,g',M',he,hR',_⟩=>?_
 have hs:=hR'.slots 0 (by simp)
 have hv:v=.bool true:=by
  have h1:V g' (St.dom ⟨[.pv (.bool true)],[]⟩) M' (.pv (.bool true)) v:=by simpa [St.slot,Array.getD] using hs
  cases h1 with
  |pv h=>cases h;rfl
 have hB:∀ b,¬ zaU ⟨fun _=>0,fun _=>0,fun _=>false⟩ [] b:=by rintro b ⟨id,ob,h,_⟩;simp at h
 exact ⟨by rw [he,hv],hR'.os,hR'.output,hR'.size0,fun b hb=>hR'.same b hb (hB b)⟩
section
variable {H:Type} {enc:TypeId × Value→H} {P:Program}
theorem Held.sameAt {W W':World} (h:Held W W') {p:MemPlace} (hp:p.block<W.heap.size):W.sameAt W' p:=by
 cases p with
 |cell b off=>show W'.cell? _=W.cell? _;simp only [World.cell?];rw [h.same b hp]
 |map b=>exact h.same b hp
theorem zhP (hl:laidOutB P=true) {W W':World} (hh:Held W W') {sp':Nat→Bool}:∀ {ts:List TypeId} {vs:List Value} {ds:List (DataW H)} {ps:List MemPlace},(∀ t ∈ ts,P.readableRec t=true∧t<P.types.size) →
  DataW.TrodAll enc P W 0 (fun _=>true) true ts vs ds ps→(∀ p ∈ ps,p.block<W.heap.size)→(∀ p ∈ ps,sp' p.block=true)→DataW.TrodAll enc P W' 0 sp' true ts vs ds ps
 |[],[],[],_,_,h,_,_=>h
 |[],[],_::_,_,_,h,_,_=>h.elim
 |[],_::_,_,_,_,h,_,_=>h.elim
 |_::_,[],_,_,_,h,_,_=>h.elim
 |_::_,_::_,[],_,_,h,_,_=>h.elim
 |t::ts,v::vs,d::ds,ps,hr,⟨p,q,h1,h2,he⟩,hlt,hsp=>by
  subst he
  have hr1:=hr t (by simp)
  exact ⟨p,q,WideElems.Trod_stays hl hr1.1 hr1.2 h1 (fun x hx=>hh.sameAt (hlt x (by simp [hx]))) (fun x hx=>hsp x (by simp [hx])),
   zhP hl hh (fun t ht=>hr t (by simp [ht])) h2 (fun x hx=>hlt x (by simp [hx])) (fun x hx=>hsp x (by simp [hx])),rfl⟩
theorem Held.keptBut {W W':World} (h:Held W W') (may:MemPlace→Prop):W.keptBut W' may:=by
 refine ⟨h.os,h.output,fun i hi=>?_⟩
 rw [h.same i hi]
 split
 ·rename_i h1 h2;rw [h1] at h2;cases h2;exact ⟨rfl,rfl,rfl,fun _ _=>rfl⟩
 ·rename_i h1 h2;rw [h1] at h2;cases h2;exact .inr ⟨rfl,rfl⟩
 ·rfl
theorem zx3 {f:Func} {s:ChangeSpec} {fresh handsOn again:Bool} {W W':World} {args:Array Value} {ds gs:List (DataW H)} {before:List MemPlace} {tb:TypeId}
  (hl:laidOutB P=true) (hr:∀ t ∈ f.params.toList,P.readableRec t=true∧t<P.types.size) (hrt:f.resultTypes=#[tb]) (htb:P.underlying tb=some .bool)
  (hvars:s.vars=[]) (hfn:∀ ds:List (DataW H),ds.length=f.params.size→(s.fn H ds).results=[.lit (.bool true)]∧(s.fn H ds).args=ds∧(s.fn H ds).vars=[])
  (hW:DataW.Whole enc P f.params.toList s.vars false W args.toList ds gs before) (hh:Held W W') :
  s.post enc P f false fresh handsOn again W args (.bool true) W':=by
 have hlt:=hW.lt
 have hW':=hW
 obtain ⟨p,q,hA,hV,rfl,hz,hn⟩:=hW
 rw [hvars] at hV
 obtain ⟨rfl,rfl⟩:=trodVars_none hV
 rw [List.append_nil] at hlt hz hn hW'
 have hdl:ds.length=f.params.size:=by
  have:∀ {ts:List TypeId} {vs:List Value} {ds:List (DataW H)} {ps:List MemPlace},DataW.TrodAll enc P W 0 (fun _=>true) true ts vs ds ps→ds.length=ts.length:=by
   intro ts
   induction ts with
   |nil=>intro vs ds ps h;obtain ⟨_,rfl,_⟩:=trodAll_nil h;rfl
   |cons t ts ih=>
    intro vs ds ps h
    obtain ⟨_,_,_,_,_,_,_,rfl,_,_,h2⟩:=trodAll_cons h
    simp [ih h2]
  simpa using this hA
 obtain ⟨f1,f2,f3⟩:=hfn (ds++[]) (by simpa using hdl)
 have hres:∀ (b:Nat) (sp:Nat→Bool) (hd:Bool),DataW.TrodAll enc P W' b sp hd f.resultTypes.toList ((Value.bool true).resultList f.resultTypes.size) (s.fn H (ds++[])).results []:=fun b sp hd=>by
  rw [f1,hrt]
  exact trodAll_cons_mk (shut_bool htb _) trodAll_mk0
 have hargs:∀ sp:Nat→Bool,(∀ x ∈ p,sp x.block=true)→DataW.TrodAll enc P W' 0 sp true f.params.toList args.toList (s.fn H (ds++[])).args p:=fun sp hsp=>by
  rw [f2,List.append_nil]
  exact zhP hl hh hr hA hlt hsp
 have hvs:∀ sp:Nat→Bool,DataW.TrodVars enc P W' sp s.vars (s.fn H (ds++[])).vars []:=fun sp=>by rw [hvars,f3];rfl
 refine ⟨ds,[],p,[],p,[],hW',hres _ _ _,hargs _ (fun x hx=>by simpa using hlt x hx),hvs _,hh.keptBut _,fun _=>?_⟩
 refine ⟨?_,_,_,([]++p)++[],⟨[]++p,[],trodAll_append (hargs _ (fun _ _=>rfl)) (hres _ _ _),hvs _,rfl,?_,?_⟩,?_⟩
 ·exact ok_one (by rw [hrt]) rfl (okWide_bool_mk htb _)
 ·intro b off hp
  have hp':MemPlace.cell b off ∈ p:=by simpa using hp
  have:=hz b off hp'
  rw [World.frozen?,hh.same b (hlt _ hp')]
  exact this
 ·intro ha;cases ha
 ·intro x hx _
  simpa using hx
end
end Go.Abs
namespace Go.Abs
open Go Go.ChangeShapes Go.WideShapes Go.ChangeAt Go.RowKit Go.Deep
section
variable {H:Type} {enc:TypeId × Value→H} {P:Program} {W:World} {spare:Nat→Bool} {held:Bool}
theorem zx4 (b off k:Nat):(⟨b,off,none⟩:Addr).add k=⟨b,off+k,none⟩:=by
 unfold Addr.add
 split
 ·rename_i h;subst h;rfl
 ·rfl
theorem zvl {base:Nat} {t e:TypeId} {a:Addr} {len cap:Nat} (ht:P.underlying t=some (.slice e)) (hv:Value.okWide P W .any base t (.slice (some a) len cap)):a.spot=none:=by
 simp only [Value.okWide,ht,Cell.okWide,Cell.ok] at hv
 exact hv.2.2.2.1
end
end Go.Abs
namespace Go.Abs
open Go Go.ChangeShapes Go.WideShapes Go.ChangeAt Go.RowKit Go.Deep
section
variable {H:Type} {enc:TypeId × Value→H} {P:Program} {W:World} {spare:Nat→Bool} {held:Bool}
theorem zsx {base:Nat} {t e:TypeId} {v:Value} {d:DataW H} {p:List MemPlace} (ht:P.underlying t=some (.slice e)) (he:P.underlying e=some (.int .u8)) (hC:P.cellsOf e=1)
  (hval:Value.okWide P W .any base t v) (h:DataW.Trod enc P W 0 spare held t v d p):∃ l:List UInt8,Rd (zgr W) (.slice (l.map zol)) v:=by
 obtain ⟨a',len',cap',rfl⟩:=okWide_slice ht hval
 obtain ⟨fuel,hf⟩:=h
 rcases Go.ChangeShapes.open_ints ht he hC hf with ⟨hcs,_⟩|⟨a,len,cap,zs,hcs,_,hlc,_,hzl,_,hcell,hwf⟩
 ·simp [Value.cells] at hcs
  obtain ⟨rfl,rfl,rfl⟩:=hcs
  exact ⟨[],.nils⟩
 ·simp [Value.cells] at hcs
  obtain ⟨rfl,rfl,rfl⟩:=hcs
  have hsp:=zvl ht hval
  obtain ⟨b,off,sp⟩:=a
  cases hsp
  have hml:len'≤zs.length:=by rw [hzl];split<;>omega
  have hz:∀ i,i<zs.length→∃ u:UInt8,zs.getD i 0=(u.toNat:Int):=fun i hi=>by
   have hm:zs.getD i 0 ∈ zs:=by simp [List.getD,hi]
   have:=hwf _ hm
   have hr:0≤zs.getD i 0∧zs.getD i 0≤255:=by simpa [Lit.wf,IntKind.min,IntKind.max,IntKind.bits,IntKind.signed] using this
   refine ⟨UInt8.ofNat (zs.getD i 0).toNat,?_⟩
   rw [UInt8.toNat_ofNat']
   omega
  let g:Nat→UInt8:=fun i=>if h:i<zs.length then Classical.choose (hz i h) else 0
  have hg:∀ i,i<zs.length→zs.getD i 0=((g i).toNat:Int):=fun i hi=>by
   have:=Classical.choose_spec (hz i hi)
   simp only [g,hi,dif_pos];exact this
  refine ⟨(List.range len').map g,?_⟩
  have hlen:(((List.range len').map g).map zol).length=len':=by simp
  have:=Rd.slice (M:=zgr W) (((List.range len').map g).map zol) 1 b off cap' (fun i _=>.int .u8 (((g i).toNat:Nat):Int))
   (fun x hx=>by simp at hx;obtain ⟨i,_,rfl⟩:=hx;rfl) (fun i j hi hj=>?_) (fun i j hi hj=>?_) (by rw [hlen];exact hlc)
  ·rw [hlen] at this;exact this
  ·rw [hlen] at hi
   have hj0:j=0:=by omega
   subst hj0
   have hc:=hcell i (by omega)
   rw [zx4] at hc
   rw [hg i (by omega)] at hc
   simpa [zgr] using hc
  ·rw [hlen] at hi
   have hj0:j=0:=by omega
   subst hj0
   have hc:zb1 (((List.range len').map g).map zol) i 0=.int .u8 (((g i).toNat:Nat):Int):=by simp [zb1,List.getD,hi,zol]
   rw [hc]
   exact .int _ _
end
end Go.Abs
namespace Go.Abs
open Go
theorem zgd {H:Type} {enc:TypeId × Value→H} {P:Program} {w:World} {base:Nat} {spare:Nat→Bool} {held:Bool} {fuel:Nat} {t e:TypeId} {cs:List Value} {ps:List MemPlace} {n:Nat} {ds:List (List UInt8)}
  (ht:P.underlying t=some (.array n e)) (he:P.underlying e=some .string) (hC:P.cellsOf e=1)
  (h:DataW.trod enc P w base spare held fuel t cs=some (.agg (ds.map fun s=>.lit (.string s)),ps)) (i:Nat) (hi:i<ds.length):cs[i]?=some (.string ⟨(ds.getD i []).toArray⟩):=by
 obtain ⟨xs,m,_,hx,_,hn,hel⟩:=DataW.trod_array ht h
 simp only [Prod.mk.injEq,DataW.agg.injEq] at hx
 have hlen:ds.length=xs.length:=by have:=congrArg List.length hx.1;simpa using this
 have h1:=hel i (by omega)
 rw [hC,List.getElem?_eq_getElem (by omega)] at h1
 obtain ⟨s,e1,e2,_⟩:=DataW.trod_string he h1
 have h2:(ds.map fun s=>(DataW.lit (.string s):DataW H))[i]?=(xs.map (fun x=>x.fst))[i]?:=by rw [hx.1]
 rw [List.getElem?_map,List.getElem?_map,List.getElem?_eq_getElem hi,List.getElem?_eq_getElem (by omega:i<xs.length)] at h2
 simp only [Option.map_some,Option.some.injEq] at h2
 rw [e2] at h2
 simp only [DataW.lit.injEq,Lit.string.injEq] at h2
 have h3:ds.getD i []=s.data.toList:=by simp [List.getD,hi,h2]
 rw [h3]
 have h4:cs[i]?=some (.string s):=by
  have:=congrArg (fun l=>l[0]?) e1
  simpa using this
 rw [h4]
theorem zvm {H:Type} {enc:TypeId × Value→H} {P:Program} {w:World} {base:Nat} {spare:Nat→Bool} {held:Bool} {fuel:Nat} {t e:TypeId} {cs:List Value} {ps:List MemPlace} {n:Nat} {k:IntKind} {ds:List Int}
  (ht:P.underlying t=some (.array n e)) (he:P.underlying e=some (.int k)) (hC:P.cellsOf e=1)
  (h:DataW.trod enc P w base spare held fuel t cs=some (.agg (ds.map fun s=>.lit (.int k s)),ps)) (i:Nat) (hi:i<ds.length):cs[i]?=some (.int k (ds.getD i 0)):=by
 obtain ⟨xs,m,_,hx,_,hn,hel⟩:=DataW.trod_array ht h
 simp only [Prod.mk.injEq,DataW.agg.injEq] at hx
 have hlen:ds.length=xs.length:=by have:=congrArg List.length hx.1;simpa using this
 have h1:=hel i (by omega)
 rw [hC,List.getElem?_eq_getElem (by omega)] at h1
 obtain ⟨s,e1,e2,_⟩:=DataW.trod_int he h1
 have h2:(ds.map fun s=>(DataW.lit (.int k s):DataW H))[i]?=(xs.map (fun x=>x.fst))[i]?:=by rw [hx.1]
 rw [List.getElem?_map,List.getElem?_map,List.getElem?_eq_getElem hi,List.getElem?_eq_getElem (by omega:i<xs.length)] at h2
 simp only [Option.map_some,Option.some.injEq] at h2
 rw [e2] at h2
 simp only [DataW.lit.injEq,Lit.int.injEq] at h2
 have h3:ds.getD i 0=s:=by simp [List.getD,hi,h2]
 rw [h3]
 have h4:cs[i]?=some (.int k s):=by
  have:=congrArg (fun l=>l[0]?) e1
  simpa using this
 rw [h4]
theorem zlx {H:Type} {enc:TypeId × Value→H} {P:Program} {w:World} {base:Nat} {spare:Nat→Bool} {held:Bool} {fuel:Nat} {t:TypeId} {cs:List Value} {ps:List MemPlace} {ms:Array (String × TypeId)} {nm:String} {d:DataW H}
  (ht:P.underlying t=some (.interface ms)) (h:DataW.trod enc P w base spare held fuel t cs=some (.iface nm d,ps)):∃ u v,cs[0]?=some (.iface u v):=by
 cases fuel with
 |zero=>simp [DataW.trod] at h
 |succ f=>
  unfold DataW.trod at h
  rw [ht] at h
  split at h<;>simp_all
theorem zeg {P:Program} {W:World} {name:String} {b:Nat} {cs:Array Value} (hg:P.globalNamed name=some b) (hv:W.var? P name=some cs):∃ T l,W.heap[b]?=some (.cells cs T l):=by
 unfold World.var? at hv
 rw [hg] at hv
 simp only [Option.bind_some] at hv
 split at hv
 ·rename_i cs' T l h
  cases hv
  exact ⟨T,l,h⟩
 ·cases hv
theorem zeR {H:Type} {enc:TypeId × Value→H} {P:Program} {w:World} {base:Nat} {spare:Nat→Bool} {held:Bool} {fuel:Nat} {t e:TypeId} {cs:Array Value} {x:DataW H × List MemPlace} {n m:Nat}
  (ht:P.underlying t=some (.array n e)) (hC:P.cellsOf t=m) (h:DataW.trod enc P w base spare held fuel t cs.toList=some x):cs.size=m:=by
 obtain ⟨_,_,_,_,hl,_⟩:=DataW.trod_array ht h
 simpa [hC] using hl
theorem zly {H:Type} {enc:TypeId × Value→H} {P:Program} {w:World} {base:Nat} {spare:Nat→Bool} {held:Bool} {fuel:Nat} {t:TypeId} {cs:Array Value} {ps:List MemPlace} {ms:Array (String × TypeId)} {nm:String} {d:DataW H}
  (ht:P.underlying t=some (.interface ms)) (h:DataW.trod enc P w base spare held fuel t cs.toList=some (.iface nm d,ps)):cs.size=1:=by
 rw [←Array.length_toList]
 generalize cs.toList=l at *
 cases fuel with
 |zero=>simp [DataW.trod] at h
 |succ f=>
  unfold DataW.trod at h
  rw [ht] at h
  split at h<;>simp_all
variable {H:Type} {enc:TypeId × Value→H}
theorem zkV {a:Assume} {C:Checked} {os:Os} {f:FuncId} {fn:Func} {s:ChangeSpec} {conds:List PathCond} {apart fresh handsOn again:Bool} {X:World→Array Value→Prop}
  (hX:∀ (w w':World) (args:Array Value),w.heap=w'.heap→X w args→X w' args)
  (own:ownKnob C.prog.godebug=none) (started:os.Started) (noInit:C.prog.inits.idxOf? f=none) (hfn:C.prog.funcs[f]?=some fn)
  (witness:∃ (w:World) (tape:Tape) (i:Input),w.os=os∧(w.forCall tape i).Shaped C.prog∧i.vars=[]∧Input.okWide C.prog (w.forCall tape i) .any w.heap.size f i ∧
   ((s.pre enc C.prog fn conds apart (w.forCall tape i).memory i.args∧X (w.forCall tape i).memory i.args)∧sizedMet enc C.prog fn (OpenSpec.ofChange s) apart (w.forCall tape i).memory i.args)∧a.holds C.prog (lone (Frame.enter C.prog f i.args .normal) [] (w.forCall tape i)))
  (contract:∀ (W:World) (base:Nat) (args:Array Value) (ds gs:List (DataW H)) (before:List MemPlace),
   (∀ (j:Nat) t v,fn.params[j]?=some t→args[j]?=some v→Value.okWide C.prog W .any base t v) →
   DataW.Whole enc C.prog fn.params.toList s.vars apart W args.toList ds gs before →
   conds.all (PathCond.test C.prog ⟨fn.params.toList,ds,s.plain.varTypes C.prog,gs⟩)=true →
   (DataW.weightsEach C.prog (fn.params.toList++s.plain.varTypes C.prog) (ds++gs)).all (·≤reachBytes)=true→X W args→W.ShapedOpen C.prog →
   Calls C.prog f args W fun e W'=>∃ v,e=.returned v∧s.post enc C.prog fn apart fresh handsOn again W args v W') :
  ReturnsInHanded a C os f .any (fun w args=>(s.pre enc C.prog fn conds apart w args∧X w args)∧sizedMet enc C.prog fn (OpenSpec.ofChange s) apart w args) (s.post enc C.prog fn apart fresh handsOn again):=by
 refine returnsInHanded_of_calls own started noInit witness ?_
 intro w tape i _ hsh _ hok hpre hholds
 obtain ⟨_,_,_,fn',hfn',_,_,_,_,hval⟩:=hok
 have e:fn'=fn:=Option.some.inj (hfn'.symm.trans hfn)
 subst e
 obtain ⟨⟨⟨ds,gs,before,hw,hc⟩,hx⟩,hz⟩:=hpre
 have hw':=DataW.Whole.of_heap (w':=w.forCall tape i) (by rfl) hw
 refine (contract (w.forCall tape i) w.heap.size i.args ds gs before hval hw' hc (hz.weights hw) (hX _ _ _ (by rfl) hx) hsh).mono fun e W' ⟨v,he,hp⟩=>?_
 subst he
 exact ChangeSpec.post_blind hp
theorem zvn {P:Program} {w:World} {g:Nat} {t:TypeId} {zero:Array Value} {k:IntKind}
  (h:w.ShapedOpen P) (hg:g<P.globals.size)
  (h0:((begin P (fun _ _=>0) default).world.heap[g]?).bind Obj.row?=some (zero,t)) (hz:zero.size=1)
  (hb:P.buildable t=true) (hc:P.cellTypes P.depth t=some [t]) (hu:P.underlying t=some (.int k)) :
  (∃ m,w.cell? ⟨g,0,none⟩=some (.int k m))∧∃ vals T l,w.heap[g]?=some (.cells vals T l)∧vals.size=1:=by
 refine ⟨Go.Proofs.cell_of_shapedOpen_int h hg h0 hz hb hc hu,?_⟩
 obtain ⟨cs,hh,hs,_⟩:=h.1 g zero t hg h0
 exact ⟨cs,t,_,hh,by omega⟩
end Go.Abs
