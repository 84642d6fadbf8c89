/- A sound walk of the program by abstract states, part 4: its theorems have no condition beyond what they state. -/
import Derived.Test.YtfinhhblcdkpgaaGreatDoorLib3
import Derived.Test.YtfinhhblcdkpgaaGreatDoorLib2
import Derived.ChangeSame
import Derived.ChangeStays
import Derived.WideKeyArgs
import Derived.Deep.Slices
import Derived.ProofKit
import Derived.WalkKit
import Derived.OpenShut
import Derived.ChangeMaps5
import Derived.ChangeSlices
import Derived.HandedShaped
import Derived.Handed
import Derived.Shelf.Vars
set_option maxRecDepth 100000
set_option maxHeartbeats 64000000
set_option linter.unusedSimpArgs false
set_option linter.unusedVariables false
set_option linter.defProp false
namespace Go.Abs
open Go
def tkW (s:List UInt8):TkD:=⟨1,s,0,0⟩
def tkS (s:List UInt8):TkD:=⟨3,s,0,0⟩
def tkN (n:Int):TkD:=⟨2,[],n,0⟩
theorem Su.tokN {t:TkD} {w u:List UInt8} {l:List TkD} (hg:Good t w) (hn:zos t w u) (h:Su u l):Su (w++u) (t::l):=by
 intro p
 obtain ⟨l',h1,h2⟩:=h (p++w)
 have ho:=zvb t w p u hg hn
 have hf:=zpV hg
 have h0:=zkL p w u hg.ne
 have hpos:0<w.length:=List.length_pos_iff.2 hg.ne
 rw [List.append_assoc] at ho h0 h1
 rw [List.length_append] at h1
 refine ⟨{ t with pos:=p.length }::l',.tok (by simp;omega) (by rw [h0];exact hf.1) (by rw [h0];exact hf.2) ho h1,?_⟩
 simp [h2,zfk]
structure Cl (S:List UInt8→List TkD→Prop):Prop where
 blank:∀ {c:UInt8} {u:List UInt8} {l:List TkD},isB c=true→S u l→S (c::u) l
 tok:∀ {t:TkD} {w u:List UInt8} {l:List TkD},Good t w→zos t w u→S u l→S (w++u) (t::l)
theorem zBP:Cl Su:=⟨Su.blank,Su.tokN⟩
section
variable {S:List UInt8→List TkD→Prop}
def zvI (u:List UInt8):Prop:=∀ c,u.head?=some c→isW c=false
theorem Cl.word (C:Cl S) {s u:List UInt8} {l:List TkD} (hg:Good (tkW s) s) (hu:zvI u) (h:S u l):S (s++u) (tkW s::l):=
 C.tok hg ⟨fun _=>hu,fun h=>by simp [tkW] at h⟩ h
theorem zb9 {s:List UInt8} (h:zbb s=true):Good (tkW s) s:=by
 unfold zbb at h
 simp only [Bool.and_eq_true,Bool.not_eq_true',Bool.or_eq_false_iff,beq_eq_false_iff_ne,beq_iff_eq,decide_eq_false_iff_not] at h
 obtain ⟨⟨⟨h1,h2⟩,h3⟩,h4,h5⟩:=h
 have h3':isL (s.getD 0 0)=true:=by unfold isL;cases hx:zeO (s.getD 0 0).toNat<;>simp_all
 refine ⟨h1,.inl ⟨rfl,rfl,rfl,h3',?_,by omega⟩⟩
 unfold zrV at h4
 rw [List.drop_zero,Nat.zero_add] at h4
 have h6:(s.takeWhile isW).length=s.length:=by omega
 have h7:s.takeWhile isW=s:=(List.takeWhile_prefix isW).eq_of_length h6
 intro c hc
 rw [←h7] at hc
 have:=List.all_takeWhile (p:=isW) (l:=s)
 exact List.all_eq_true.1 this c hc
theorem zvJ (n:Int) (h0:0≤n) (h1:n≤9223372036854775807):Good (tkN n) (zdM n):=by
 obtain ⟨a,b,c⟩:=zor n h1
 have d:zc3 n 0=n:=by unfold zc3;split<;>omega
 rw [d] at c
 exact ⟨a.ne,.inr (.inl ⟨rfl,rfl,c.symm,a,by omega⟩)⟩
theorem Cl.num (C:Cl S) {n:Int} {u:List UInt8} {l:List TkD} (h0:0≤n) (h1:n≤9223372036854775807) (hu:zvI u) (h:S u l):S (zdM n++u) (tkN n::l):=
 C.tok (zvJ n h0 h1) ⟨fun _=>hu,fun h=>by simp [tkN] at h⟩ h
theorem Cl.sign1 (C:Cl S) {c:UInt8} {u:List UInt8} {l:List TkD} (hL:isL c=false) (hD:isD c=false) (h0:zbg c.toNat 0=1) (hu:zbg c.toNat (nx u)=1) (h:S u l):S (c::u) (tkS [c]::l):=
 C.tok (w:=[c]) ⟨by simp,.inr (.inr ⟨rfl,rfl,rfl,by simpa using hL,by simpa using hD,.inl ⟨rfl,by simpa using h0⟩⟩)⟩ ⟨fun h=>by simp [tkS] at h,fun _ _=>by simpa using hu⟩ h
theorem Cl.sign2 (C:Cl S) {c d:UInt8} {u:List UInt8} {l:List TkD} (hL:isL c=false) (hD:isD c=false) (h0:zbg c.toNat d.toNat=2) (h:S u l):S (c::d::u) (tkS [c,d]::l):=
 C.tok (w:=[c,d]) ⟨by simp,.inr (.inr ⟨rfl,rfl,rfl,by simpa using hL,by simpa using hD,.inr ⟨rfl,by simpa using h0⟩⟩)⟩ ⟨fun h=>by simp [tkS] at h,fun _ hl=>by simp at hl⟩ h
theorem Cl.sg (C:Cl S) {c:UInt8} {u:List UInt8} {l:List TkD} (hL:isL c=false) (hD:isD c=false) (hu:∀ n,zbg c.toNat n=1) (h:S u l):S (c::u) (tkS [c]::l):=C.sign1 hL hD (hu _) (hu _) h
def ztv (u:List UInt8):Prop:=∀ c,u.head?=some c→c=32∨c=41∨c=93∨c=59∨c=44
theorem zdB {c:UInt8} {u:List UInt8} (h:c=32∨c=41∨c=93∨c=59∨c=44):ztv (c::u):=by
 intro d hd
 simp only [List.head?_cons,Option.some.injEq] at hd
 subst hd
 exact h
theorem ztv.stop {u:List UInt8} (h:ztv u):zvI u:=by
 intro c hc
 rcases h c hc with rfl|rfl|rfl|rfl|rfl<;>decide
theorem zbD {c:UInt8} {u:List UInt8} (h:isW c=false):zvI (c::u):=by
 intro d hd
 simp only [List.head?_cons,Option.some.injEq] at hd
 subst hd
 exact h
def zjg (q:Bool × List TkD):List TkD:=if q.1 then tkS [40]::(q.2++[tkS [41]]) else q.2
def tkX (op value:Int) (nm:List UInt8) (ts:List (Bool × List TkD)):List TkD:=
 if op=1 then [tkN value] else if op=2 then [tkW nm]
 else if op=3 then tkW nm::tkS [91]::((ts.getD 0 (false,[])).2++[tkS [93]])
 else if op=4 then [tkW [115,101,108,102]] else if op=5 then [tkW [112,114,111,99,115]] else if op=6 then [tkW [102,114,111,109]] else if op=7 then [tkW [118,97,108,117,101]]
 else if op=8∨op=9 then tkS (sgF op.toNat)::zjg (ts.getD 0 (false,[]))
 else zjg (ts.getD 0 (false,[]))++tkS (sgF op.toNat)::zjg (ts.getD 1 (false,[]))
mutual
def tkE:Ex→List TkD
 |.mk op value nm _ _ args=>tkX op value nm (zE4 args)
def zE4:List Ex→List (Bool × List TkD)
 |[]=>[]
 |e::r=>(decide (e.op≥8),tkE e)::zE4 r
end
inductive GdE:Ex→Prop
 |num (v:Int):0≤v→v≤9223372036854775807→GdE (exC v)
 |name (nm:List UInt8):zbb nm=true→GdE (exN nm)
 |index (nm:List UInt8) (e:Ex):zbb nm=true→GdE e→GdE (exI nm e)
 |word (op:Int):4≤op→op≤7→GdE (exK op)
 |un (op:Int) (e:Ex):op=8∨op=9→GdE e→GdE (exU op e)
 |bin (op:Int) (a b:Ex):10≤op→op≤22→GdE a→GdE b→GdE (exB op a b)
theorem zpf:∀ {l:List Ex} {e:Ex},zoG l=true→e ∈ l→rgE e=true
 |x::r,s,h,hm=>by
  simp only [zoG,Bool.and_eq_true] at h
  rcases List.mem_cons.1 hm with rfl|hm
  ·exact h.1
  ·exact zpf h.2 hm
theorem zmx (n:Nat):∀ e:Ex,szE e≤n→zbc e=true→rgE e=true→GdE e:=by
 induction n with
 |zero=>intro e h;cases e;simp [szE] at h
 |succ n ih=>
  intro e hz hg hr
  obtain ⟨op,value,nm,slot,size,args⟩:=e
  rw [zbc] at hg
  simp only [Bool.and_eq_true] at hg
  obtain ⟨hh,ha⟩:=hg
  unfold zd0 at hh
  simp only [Bool.and_eq_true,beq_iff_eq,Bool.not_eq_true',Bool.or_eq_false_iff,decide_eq_false_iff_not,Bool.and_eq_false_iff,bne_eq_false_iff_eq] at hh
  obtain ⟨⟨⟨⟨h1,h2⟩,h3⟩,h4,h5⟩,h6⟩:=hh
  subst h2 h3
  rw [rgE] at hr
  simp only [Bool.and_eq_true] at hr
  have hop:1≤op∧op≤22:=by
   unfold zdK at h1
   split at h1
   ·omega
   ·omega
  have hv:op≠1→value=0:=fun h=>by rcases h5 with h5|h5;exact h5;exact absurd h5 h
  have hsub:∀ x ∈ args,szE x≤n∧zbc x=true∧rgE x=true:=by
   intro x hx
   rw [zh7] at ha
   have hxs:szE x≤zgs args:=zdJ args x hx
   rw [szE] at hz
   refine ⟨by omega,List.all_eq_true.1 ha x hx,?_⟩
   exact zpf hr.2 hx
  unfold zdK at h1
  unfold zaW at h6
  rw [if_neg (by omega)] at h1
  by_cases h10:op≥10
  ·rw [if_pos h10] at h1
   rw [hv (by omega)]
   match args,h1 with
   |[a,b],_=>
    rw [if_neg (by simp;omega)] at h6
    simp only [beq_iff_eq] at h6
    subst h6
    obtain ⟨a1,a2,a3⟩:=hsub a (by simp)
    obtain ⟨b1,b2,b3⟩:=hsub b (by simp)
    exact .bin op a b h10 hop.2 (ih a a1 a2 a3) (ih b b1 b2 b3)
  ·rw [if_neg h10] at h1
   by_cases h3:op=3
   ·subst h3
    rw [hv (by omega)]
    simp only [true_or,if_true] at h1
    match args,h1 with
    |[a],_=>
     obtain ⟨a1,a2,a3⟩:=hsub a (by simp)
     simp at h6
     exact .index nm a h6 (ih a a1 a2 a3)
   ·by_cases h89:op=8∨op=9
    ·rw [if_pos (.inr h89)] at h1
     rw [hv (by omega)]
     rw [if_neg (by simp;omega)] at h6
     simp only [beq_iff_eq] at h6
     subst h6
     match args,h1 with
     |[a],_=>
      obtain ⟨a1,a2,a3⟩:=hsub a (by simp)
      exact .un op a h89 (ih a a1 a2 a3)
    ·rw [if_neg (by omega)] at h1
     match args,h1 with
     |[],_=>
      by_cases hop1:op=1
      ·subst hop1
       rw [if_neg (by simp)] at h6
       simp only [beq_iff_eq] at h6
       subst h6
       have:=hr.1
       simp only [zgK,Bool.and_eq_true,decide_eq_true_eq] at this
       exact .num value (by omega) (by omega)
      ·rw [hv hop1]
       by_cases hop2:op=2
       ·subst hop2
        simp at h6
        exact .name nm h6
       ·rw [if_neg (by simp;omega)] at h6
        simp only [beq_iff_eq] at h6
        subst h6
        exact .word op (by omega) (by omega)
theorem zFw (v:Int):fmE (exC v)=zdM v:=rfl
theorem zFx (nm:List UInt8):fmE (exN nm)=nm:=rfl
theorem zE5 (nm:List UInt8) (e:Ex):fmE (exI nm e)=nm++91::(fmE e++[93]):=rfl
theorem zFy (op:Int) (e:Ex) (h:op=8∨op=9):fmE (exU op e)=sgF op.toNat++zg0 (decide (e.op≥8),fmE e):=by rcases h with rfl|rfl<;>rfl
theorem zFz (op:Int) (a b:Ex) (h:10≤op):fmE (exB op a b)=zg0 (decide (a.op≥8),fmE a)++32::(sgF op.toNat++32::zg0 (decide (b.op≥8),fmE b)):=by
 simp only [exB,fmE,fmN,zl4]
 rw [if_neg (by omega),if_neg (by omega),if_neg (by omega),if_neg (by omega),if_neg (by omega),if_neg (by omega),if_neg (by omega),if_neg (by omega)]
 rfl
theorem zHh (v:Int):tkE (exC v)=[tkN v]:=rfl
theorem zHi (nm:List UInt8):tkE (exN nm)=[tkW nm]:=rfl
theorem zFA (nm:List UInt8) (e:Ex):tkE (exI nm e)=tkW nm::tkS [91]::(tkE e++[tkS [93]]):=rfl
theorem zFB (op:Int) (e:Ex) (h:op=8∨op=9):tkE (exU op e)=tkS (sgF op.toNat)::zjg (decide (e.op≥8),tkE e):=by rcases h with rfl|rfl<;>rfl
theorem zFC (op:Int) (a b:Ex) (h:10≤op):tkE (exB op a b)=zjg (decide (a.op≥8),tkE a)++tkS (sgF op.toNat)::zjg (decide (b.op≥8),tkE b):=by
 simp only [exB,tkE,tkX,zE4]
 rw [if_neg (by omega),if_neg (by omega),if_neg (by omega),if_neg (by omega),if_neg (by omega),if_neg (by omega),if_neg (by omega),if_neg (by omega)]
 rfl
def kwF (op:Int):List UInt8:=if op=4 then [115,101,108,102] else if op=5 then [112,114,111,99,115] else if op=6 then [102,114,111,109] else [118,97,108,117,101]
theorem zE6 (op:Int) (h:4≤op) (h2:op≤7):fmE (exK op)=kwF op∧tkE (exK op)=[tkW (kwF op)]:=by
 have:op=4∨op=5∨op=6∨op=7:=by omega
 rcases this with rfl|rfl|rfl|rfl<;>exact ⟨rfl,rfl⟩
theorem zsY (s:List UInt8) (h:(s.all isW&&isL (s.getD 0 0)&&decide (s.length≤16))=true) (hs:s≠[]):Good (tkW s) s:=by
 simp only [Bool.and_eq_true,decide_eq_true_eq] at h
 exact ⟨hs,.inl ⟨rfl,rfl,rfl,h.1.2,fun c hc=>List.all_eq_true.1 h.1.1 c hc,h.2⟩⟩
theorem zvK (op:Int):Good (tkW (kwF op)) (kwF op):=by
 unfold kwF
 repeat' split
 all_goals exact zsY _ (by decide) (by decide)
theorem Cl.par (C:Cl S) {u f:List UInt8} {l t:List TkD} {b:Bool} (hs:∀ u l,ztv u→S u l→S (f++u) (t++l)) (hu:ztv u) (h:S u l):S (zg0 (b,f)++u) (zjg (b,t)++l):=by
 cases b with
 |false=>exact hs u l hu h
 |true=>
  have h1:S (41::u) (tkS [41]::l):=C.sg (by decide) (by decide) (fun n=>by simp [zbg]) h
  have h2:=hs _ _ (zdB (by simp)) h1
  have h3:S (40::(f++41::u)) (tkS [40]::(t++tkS [41]::l)):=C.sg (by decide) (by decide) (fun n=>by simp [zbg]) h2
  simpa [zg0,zjg] using h3
theorem Cl.sp (C:Cl S) {u:List UInt8} {l:List TkD} (h:S u l):S (32::u) l:=C.blank (by decide) h
theorem Cl.lf (C:Cl S) {u:List UInt8} {l:List TkD} (h:S u l):S (10::u) l:=C.blank (by decide) h
theorem Cl.oper (C:Cl S) {op:Nat} {u:List UInt8} {l:List TkD} (h1:10≤op) (h2:op≤22) (h:S u l):S (sgF op++32::u) (tkS (sgF op)::l):=by
 have:op=10∨op=11∨op=12∨op=13∨op=14∨op=15∨op=16∨op=17∨op=18∨op=19∨op=20∨op=21∨op=22:=by omega
 rcases this with rfl|rfl|rfl|rfl|rfl|rfl|rfl|rfl|rfl|rfl|rfl|rfl|rfl
 ·exact C.sign1 (c:=43) (by decide) (by decide) (by decide) (by rfl) (C.sp h)
 ·exact C.sign1 (c:=45) (by decide) (by decide) (by decide) (by rfl) (C.sp h)
 ·exact C.sign1 (c:=42) (by decide) (by decide) (by decide) (by rfl) (C.sp h)
 ·exact C.sign1 (c:=47) (by decide) (by decide) (by decide) (by rfl) (C.sp h)
 ·exact C.sign1 (c:=37) (by decide) (by decide) (by decide) (by rfl) (C.sp h)
 ·exact C.sign1 (c:=60) (by decide) (by decide) (by decide) (by rfl) (C.sp h)
 ·exact C.sign2 (c:=60) (d:=61) (by decide) (by decide) (by decide) (C.sp h)
 ·exact C.sign1 (c:=62) (by decide) (by decide) (by decide) (by rfl) (C.sp h)
 ·exact C.sign2 (c:=62) (d:=61) (by decide) (by decide) (by decide) (C.sp h)
 ·exact C.sign2 (c:=61) (d:=61) (by decide) (by decide) (by decide) (C.sp h)
 ·exact C.sign2 (c:=33) (d:=61) (by decide) (by decide) (by decide) (C.sp h)
 ·exact C.sign2 (c:=38) (d:=38) (by decide) (by decide) (by decide) (C.sp h)
 ·exact C.sign2 (c:=124) (d:=124) (by decide) (by decide) (by decide) (C.sp h)
def zCx (f:List UInt8):Prop:=∃ c r,f=c::r∧c≠61
theorem zCx.opd {f:List UInt8} {b:Bool} (h:zCx f) (u:List UInt8):∃ c r,zg0 (b,f)++u=c::r∧c≠61:=by
 obtain ⟨c,r,rfl,hc⟩:=h
 cases b
 ·exact ⟨c,r++u,rfl,hc⟩
 ·exact ⟨40,c::r++[41]++u,by simp [zg0],by decide⟩
theorem zjW {s:List UInt8} (h:zbb s=true) (r:List UInt8):zCx (s++r):=by
 have hg:=zb9 h
 rcases hg.kinds with ⟨_,_,_,h4,_⟩|⟨h1,_⟩|⟨h1,_⟩
 ·cases s with
  |nil=>exact absurd rfl hg.ne
  |cons c t=>
   refine ⟨c,t++r,rfl,?_⟩
   rintro rfl
   simp only [List.getD_cons_zero] at h4
   exact absurd h4 (by decide)
 ·simp [tkW] at h1
 ·simp [tkW] at h1
theorem zd7 (C:Cl S):∀ {e:Ex},GdE e→zCx (fmE e)∧∀ (u:List UInt8) (l:List TkD),ztv u→S u l→S (fmE e++u) (tkE e++l)
 |_,.num v h0 h1=>by
  refine ⟨?_,fun u l hu h=>C.num h0 h1 hu.stop h⟩
  obtain ⟨a,_⟩:=zor v h1
  rw [zFw]
  cases hd:zdM v with
  |nil=>exact absurd hd a.ne
  |cons c t=>
   refine ⟨c,t,rfl,?_⟩
   rintro rfl
   have:=a.all 61 (by rw [hd];simp)
   exact absurd this (by decide)
 |_,.name nm hv=>⟨by have:=zjW hv [];simpa [zFx] using this,fun u l hu h=>C.word (zb9 hv) hu.stop h⟩
 |_,.index nm e hv he=>by
  obtain ⟨_,hs⟩:=zd7 C he
  refine ⟨by rw [zE5];exact zjW hv _,fun u l hu h=>?_⟩
  have h1:S (93::u) (tkS [93]::l):=C.sg (by decide) (by decide) (fun n=>by simp [zbg]) h
  have h2:=hs _ _ (zdB (by simp)) h1
  have h3:S (91::(fmE e++93::u)) (tkS [91]::(tkE e++tkS [93]::l)):=C.sg (by decide) (by decide) (fun n=>by simp [zbg]) h2
  have h4:=C.word (zb9 hv) (zbD (by decide)) h3
  simpa [zE5,zFA] using h4
 |_,.word op h1 h2=>by
  obtain ⟨e1,e2⟩:=zE6 op h1 h2
  rw [e1,e2]
  refine ⟨?_,fun u l hu h=>C.word (zvK op) hu.stop h⟩
  unfold kwF
  repeat' split
  all_goals exact ⟨_,_,rfl,by decide⟩
 |_,.un op e ho he=>by
  obtain ⟨hn,hs⟩:=zd7 C he
  rw [zFy op e ho,zFB op e ho]
  refine ⟨by rcases ho with rfl|rfl<;>exact ⟨_,_,rfl,by decide⟩,fun u l hu h=>?_⟩
  have h1:=C.par (b:=decide (e.op≥8)) hs hu h
  obtain ⟨c,r,hc,hne⟩:=hn.opd (b:=decide (e.op≥8)) u
  rw [List.append_assoc]
  rcases ho with rfl|rfl
  ·exact C.sg (by decide) (by decide) (fun n=>by simp [zbg]) h1
  ·refine C.sign1 (c:=33) (by decide) (by decide) (by decide) ?_ h1
   rw [hc]
   refine zou (n:=0) (by decide) _ ?_
   simp only [nx]
   intro hx
   have hx2:(c.toNat:Int)=61:=hx
   have h2:c.toNat=61:=by omega
   exact hne (UInt8.toNat.inj h2)
 |_,.bin op a b h1 h2 ha hb=>by
  obtain ⟨hn,hsa⟩:=zd7 C ha
  obtain ⟨_,hsb⟩:=zd7 C hb
  rw [zFz op a b h1,zFC op a b h1]
  refine ⟨?_,fun u l hu h=>?_⟩
  ·obtain ⟨c,r,hc,hne⟩:=hn.opd (b:=decide (a.op≥8)) (32::(sgF op.toNat++32::zg0 (decide (b.op≥8),fmE b)))
   exact ⟨c,r,hc,hne⟩
  ·have k1:=C.par (b:=decide (b.op≥8)) hsb hu h
   have k2:=C.oper (op:=op.toNat) (by omega) (by omega) k1
   have k3:=C.par (b:=decide (a.op≥8)) hsa (zdB (by simp)) (C.sp k2)
   simpa using k3
inductive GdS:Sm→Prop
 |assign (nm:List UInt8) (v:Ex):zbb nm=true→GdE v→GdS (smE 1 nm exZ v [] [])
 |store (nm:List UInt8) (p v:Ex):zbb nm=true→GdE p→GdE v→GdS (smE 2 nm p v [] [])
 |put (p v:Ex):GdE p→GdE v→GdS (smE 5 [] p v [] [])
 |out (v:Ex):GdE v→GdS (smE 6 [] exZ v [] [])
 |ife (v:Ex) (b c:List Sm):GdE v→(∀ s ∈ b,GdS s)→(∀ s ∈ c,GdS s)→GdS (smE 3 [] exZ v b c)
 |loop (v:Ex) (b:List Sm):GdE v→(∀ s ∈ b,GdS s)→GdS (smE 4 [] exZ v b [])
def tkY (kind:Int) (nm:List UInt8) (place value body els:List TkD) (he:Bool):List TkD:=
 if kind=1 then tkW nm::tkS [61]::(value++[tkS [59]])
 else if kind=2 then tkW nm::tkS [91]::(place++tkS [93]::tkS [61]::(value++[tkS [59]]))
 else if kind=5 then tkW [115,101,110,100]::(place++tkS [44]::(value++[tkS [59]]))
 else if kind=6 then tkW [111,117,116,112,117,116]::(value++[tkS [59]])
 else tkW (if kind=3 then [105,102] else [119,104,105,108,101])::(value++tkS [123]::(body++((if he then tkS [125]::tkW [101,108,115,101]::tkS [123]::els else [])++[tkS [125]])))
mutual
def ziT:Sm→List TkD
 |.mk kind nm _ _ place value body els=>tkY kind nm (tkE place) (tkE value) (zfp body) (zfp els) (decide (els.length > 0))
def zfp:List Sm→List TkD
 |[]=>[]
 |s::r=>ziT s++zfp r
end
theorem zhz {e:Ex} (h:zen e=true):e=exZ:=by
 obtain ⟨op,value,nm,slot,size,args⟩:=e
 simp only [zen,Ex.op,Ex.value,Ex.name,Ex.slot,Ex.size,Ex.args,Bool.and_eq_true,beq_iff_eq] at h
 obtain ⟨⟨⟨⟨⟨rfl,rfl⟩,rfl⟩,rfl⟩,rfl⟩,h⟩:=h
 have:args=[]:=List.length_eq_zero_iff.1 h
 subst this
 rfl
theorem zsZ (n:Nat):∀ s:Sm,szS s≤n→zct s=true→rgS s=true→GdS s:=by
 induction n with
 |zero=>intro s h;rw [zgb] at h;omega
 |succ n ih=>
  intro s hz hg hr
  obtain ⟨kind,nm,slot,size,place,value,body,els⟩:=s
  rw [zct] at hg
  simp only [Bool.and_eq_true] at hg
  obtain ⟨hh,⟨hgv,hgb⟩,hge⟩:=hg
  rw [rgS] at hr
  simp only [Bool.and_eq_true] at hr
  obtain ⟨⟨⟨hrp,hrv⟩,hrb⟩,hre⟩:=hr
  rw [szS] at hz
  have hV:GdE value:=zmx _ value (Nat.le_refl _) hgv hrv
  have hP:zbc place=true→GdE place:=fun h=>zmx _ place (Nat.le_refl _) h hrp
  have hB:∀ s ∈ body,GdS s:=fun s hs=>ih s (by have:=zbK body s hs;omega) (zdx hgb hs) (zgg hrb hs)
  have hE:∀ s ∈ els,GdS s:=fun s hs=>ih s (by have:=zbK els s hs;omega) (zdx hge hs) (zgg hre hs)
  unfold zeo at hh
  simp only [Bool.and_eq_true,decide_eq_true_eq,beq_iff_eq] at hh
  obtain ⟨⟨⟨⟨⟨⟨⟨k1,k2⟩,h1⟩,h2⟩,h3⟩,h4⟩,h5⟩,h6⟩:=hh
  subst h1 h2
  have hk:kind=1∨kind=2∨kind=3∨kind=4∨kind=5∨kind=6:=by omega
  have nil:∀ l:List Sm,¬ l.length > 0→l=[]:=fun l h=>List.length_eq_zero_iff.1 (by omega)
  rcases hk with rfl|rfl|rfl|rfl|rfl|rfl
  all_goals simp [zaW] at h3 h4 h5 h6
  ·rw [zhz h4];subst h5 h6;exact .assign nm value h3 hV
  ·subst h5 h6;exact .store nm place value h3 (hP h4) hV
  ·rw [zhz h4];subst h3;exact .ife value body els hV hB hE
  ·rw [zhz h4];subst h3 h6;exact .loop value body hV hB
  ·subst h3 h5 h6;exact .put place value (hP h4) hV
  ·rw [zhz h4];subst h3 h5 h6;exact .out value hV
theorem Cl.ind (C:Cl S) {u:List UInt8} {l:List TkD} (n:Nat) (h:S u l):S (zdf n++u) l:=by
 unfold zdf
 induction 2 * n with
 |zero=>exact h
 |succ n ih=>rw [List.replicate_succ];exact C.sp ih
theorem Cl.semi (C:Cl S) {u:List UInt8} {l:List TkD} (h:S u l):S (59::10::u) (tkS [59]::l):=C.sg (by decide) (by decide) (fun n=>by simp [zbg]) (C.lf h)
theorem Cl.cb (C:Cl S) {u:List UInt8} {l:List TkD} (h:S u l):S (125::u) (tkS [125]::l):=C.sg (by decide) (by decide) (fun n=>by simp [zbg]) h
theorem Cl.ob (C:Cl S) {u:List UInt8} {l:List TkD} (h:S u l):S (123::u) (tkS [123]::l):=C.sg (by decide) (by decide) (fun n=>by simp [zbg]) h
theorem Cl.eq (C:Cl S) {u:List UInt8} {l:List TkD} (h:S u l):S (61::32::u) (tkS [61]::l):=C.sign1 (by decide) (by decide) (by decide) (by rfl) (C.sp h)
theorem Cl.osb (C:Cl S) {u:List UInt8} {l:List TkD} (h:S u l):S (91::u) (tkS [91]::l):=C.sg (by decide) (by decide) (fun n=>by simp [zbg]) h
theorem Cl.csb (C:Cl S) {u:List UInt8} {l:List TkD} (h:S u l):S (93::u) (tkS [93]::l):=C.sg (by decide) (by decide) (fun n=>by simp [zbg]) h
theorem Cl.comma (C:Cl S) {u:List UInt8} {l:List TkD} (h:S u l):S (44::u) (tkS [44]::l):=C.sg (by decide) (by decide) (fun n=>by simp [zbg]) h
theorem Cl.minus (C:Cl S) {u:List UInt8} {l:List TkD} (h:S u l):S (45::u) (tkS [45]::l):=C.sg (by decide) (by decide) (fun n=>by simp [zbg]) h
theorem Cl.kw (C:Cl S) {s u:List UInt8} {l:List TkD} (hs:(s.all isW&&isL (s.getD 0 0)&&decide (s.length≤16))=true) (hn:s≠[]) (h:S u l):S (s++32::u) (tkW s::l):=C.word (zsY s hs hn) (zbD (by decide)) (C.sp h)
theorem zmy (C:Cl S) (b:List Sm) (hb:∀ s ∈ b,∀ (n:Nat) (u:List UInt8) (l:List TkD),S u l→S (stT n s++u) (ziT s++l)) (n:Nat) (u:List UInt8) (l:List TkD) (h:S u l):S (lsT n b++u) (zfp b++l):=by
 induction b with
 |nil=>simpa [lsT,zfp] using h
 |cons s r ih=>
  have h1:=ih (fun x hx=>hb x (by simp [hx]))
  have h2:=hb s (by simp) n _ _ h1
  have h3:=C.ind n h2
  simpa [lsT,zfp] using h3
theorem e32 (u:List UInt8):ztv (32::u):=zdB (by simp)
theorem e59 (u:List UInt8):ztv (59::u):=zdB (by simp)
theorem e93 (u:List UInt8):ztv (93::u):=zdB (by simp)
theorem e44 (u:List UInt8):ztv (44::u):=zdB (by simp)
theorem zBQ (C:Cl S) {s:Sm} (hs:GdS s):∀ (n:Nat) (u:List UInt8) (l:List TkD),S u l→S (stT n s++u) (ziT s++l):=by
 induction hs with
 |assign nm v hn hv=>
  intro n u l h
  have h1:=C.word (zb9 hn) (zbD (by decide)) (C.sp (C.eq ((zd7 C hv).2 _ _ (e59 _) (C.semi h))))
  simpa [smE,stT,fmS,ziT,tkY] using h1
 |store nm p v hn hp hv=>
  intro n u l h
  have h1:=C.word (zb9 hn) (zbD (by decide)) (C.osb ((zd7 C hp).2 _ _ (e93 _) (C.csb (C.sp (C.eq ((zd7 C hv).2 _ _ (e59 _) (C.semi h)))))))
  simpa [smE,stT,fmS,ziT,tkY] using h1
 |put p v hp hv=>
  intro n u l h
  have h1:=C.kw (s:=[115,101,110,100]) (by decide) (by decide) ((zd7 C hp).2 _ _ (e44 _) (C.comma (C.sp ((zd7 C hv).2 _ _ (e59 _) (C.semi h)))))
  simpa [smE,stT,fmS,ziT,tkY] using h1
 |out v hv=>
  intro n u l h
  have h1:=C.kw (s:=[111,117,116,112,117,116]) (by decide) (by decide) ((zd7 C hv).2 _ _ (e59 _) (C.semi h))
  simpa [smE,stT,fmS,ziT,tkY] using h1
 |ife v b c hv hb hc ihb ihc=>
  intro n u l h
  by_cases he:c.length > 0
  ·have h1:=C.kw (s:=[105,102]) (by decide) (by decide) ((zd7 C hv).2 _ _ (e32 _) (C.sp (C.ob (C.lf (zmy C b ihb (n+1) _ _ (C.ind n (C.cb (C.sp (C.kw (s:=[101,108,115,101]) (by decide) (by decide) (C.ob (C.lf (zmy C c ihc (n+1) _ _ (C.ind n (C.cb (C.lf h)))))))))))))))
   simpa [smE,stT,fmS,ziT,tkY,he] using h1
  ·have hc0:c=[]:=List.length_eq_zero_iff.1 (by omega)
   subst hc0
   have h1:=C.kw (s:=[105,102]) (by decide) (by decide) ((zd7 C hv).2 _ _ (e32 _) (C.sp (C.ob (C.lf (zmy C b ihb (n+1) _ _ (C.ind n (C.cb (C.lf h))))))))
   simpa [smE,stT,fmS,ziT,tkY] using h1
 |loop v b hv hb ihb=>
  intro n u l h
  have h1:=C.kw (s:=[119,104,105,108,101]) (by decide) (by decide) ((zd7 C hv).2 _ _ (e32 _) (C.sp (C.ob (C.lf (zmy C b ihb (n+1) _ _ (C.ind n (C.cb (C.lf h))))))))
  simpa [smE,stT,fmS,ziT,tkY] using h1
def tkH (nm:List UInt8) (l:List Sm):List TkD:=if l.length=0 then [] else tkW [111,110]::tkW nm::tkS [123]::(zfp l++[tkS [125]])
theorem zBR (C:Cl S) {nm:List UInt8} (hk:(nm.all isW&&isL (nm.getD 0 0)&&decide (nm.length≤16))=true) (hn:nm≠[]) {b:List Sm} (hb:∀ s ∈ b,GdS s) {u:List UInt8} {l:List TkD} (h:S u l):S (hdT nm b++u) (tkH nm b++l):=by
 unfold hdT tkH
 by_cases hl:b.length=0
 ·rw [if_pos hl,if_pos hl];exact h
 ·rw [if_neg hl,if_neg hl]
  have h1:=C.kw (s:=[111,110]) (by decide) (by decide) (C.kw hk hn (C.ob (C.lf (zmy C b (fun s hs=>zBQ C (hb s hs)) 1 _ _ (C.cb (C.lf h))))))
  simpa using h1
def tkI (n:Int):List TkD:=if n<0 then [tkS [45],tkN (-n)] else [tkN n]
def tkV (v:VarD):List TkD:=
 if v.size≠0 then [tkW [97,114,114,97,121],tkW v.name,tkS [91],tkN v.size,tkS [93],tkS [59]]
 else if v.init≠0 then tkW [118,97,114]::tkW v.name::tkS [61]::(tkI v.init++[tkS [59]]) else [tkW [118,97,114],tkW v.name,tkS [59]]
structure GV (v:VarD):Prop where
 name:zbb v.name=true
 size:0≤v.size∧v.size≤9223372036854775807
 init:-9223372036854775807≤v.init∧v.init≤9223372036854775807
 one:v.size=0∨v.init=0
theorem zqq {v:VarD} (h:zcB v=true) (hr:rgV v=true):GV v:=by
 unfold rgV at hr
 simp only [Bool.and_eq_true] at hr
 have r1:=zdS hr.1
 have r2:=zdS hr.2
 unfold zcB at h
 split at h
 ·cases h
 ·rename_i h1
  split at h
  ·cases h
  ·rename_i h2
   simp only [Bool.or_eq_true,Bool.not_eq_true',decide_eq_true_eq,not_or,Bool.not_eq_false] at h1
   simp only [Bool.and_eq_true,bne_iff_ne,ne_eq,not_and,Decidable.not_not] at h2
   simp only [bne_iff_ne,ne_eq] at h
   exact ⟨h1.1,⟨by omega,r1.2⟩,⟨by omega,r2.2⟩,by by_cases hz:v.size=0;exact .inl hz;exact .inr (h2 hz)⟩
theorem zBS (C:Cl S) {v:VarD} (hv:GV v) {u:List UInt8} {l:List TkD} (h:S u l):S (vaT v++u) (tkV v++l):=by
 unfold vaT tkV
 by_cases hs:v.size≠0
 ·rw [if_pos hs,if_pos hs]
  have hi:itT v.size=zdM v.size:=by unfold itT;rw [if_neg (by have:=hv.size;omega)]
  rw [hi]
  have h1:=C.kw (s:=[97,114,114,97,121]) (by decide) (by decide) (C.word (zb9 hv.name) (zbD (by decide)) (C.osb (C.num hv.size.1 hv.size.2 (zbD (by decide)) (C.csb (C.semi h)))))
  simpa using h1
 ·rw [if_neg hs,if_neg hs]
  by_cases hi:v.init≠0
  ·rw [if_pos hi,if_pos hi]
   unfold itT tkI
   by_cases hn:v.init<0
   ·rw [if_pos hn,if_pos hn]
    have h1:=C.kw (s:=[118,97,114]) (by decide) (by decide) (C.word (zb9 hv.name) (zbD (by decide)) (C.sp (C.eq (C.minus (C.num (n:=-v.init) (by omega) (by have:=hv.init;omega) (zbD (by decide)) (C.semi h))))))
    simpa using h1
   ·rw [if_neg hn,if_neg hn]
    have h1:=C.kw (s:=[118,97,114]) (by decide) (by decide) (C.word (zb9 hv.name) (zbD (by decide)) (C.sp (C.eq (C.num (n:=v.init) (by omega) (by have:=hv.init;omega) (zbD (by decide)) (C.semi h)))))
    simpa using h1
  ·rw [if_neg hi,if_neg hi]
   have h1:=C.kw (s:=[118,97,114]) (by decide) (by decide) (C.word (zb9 hv.name) (zbD (by decide)) (C.semi h))
   simpa using h1
def zjh (l:List VarD):List TkD:=(l.map tkV).flatten
theorem zwm (C:Cl S):∀ (vs:List VarD),(∀ v ∈ vs,GV v)→∀ {u:List UInt8} {l:List TkD},S u l→S (vsT vs++u) (zjh vs++l)
 |[],_,_,_,h=>by simpa [vsT,zjh] using h
 |v::r,hv,_,_,h=>by
  have h1:=zBS C (hv v (by simp)) (zwm C r (fun x hx=>hv x (by simp [hx])) h)
  simpa [vsT,zjh] using h1
end
structure GP (p:PgD):Prop where
 vars:∀ v ∈ p.vars,GV v
 start:∀ s ∈ p.start,GdS s
 message:∀ s ∈ p.message,GdS s
 tick:∀ s ∈ p.tick,GdS s
 input:∀ s ∈ p.input,GdS s
theorem zvL {p:PgD} (h:zbF zan p=0) (hr:rgP p=true):GP p∧znc p≤16:=by
 unfold zbF at h
 split at h
 ·omega
 ·rename_i h1
  split at h
  ·omega
  ·rename_i h2
   split at h
   ·omega
   ·rename_i h3
    simp only [Bool.not_eq_true,List.any_eq_false,Bool.not_eq_false] at h2
    simp only [Bool.or_eq_true,Bool.not_eq_true',not_or,Bool.not_eq_false] at h3
    unfold rgP at hr
    simp only [Bool.and_eq_true] at hr
    obtain ⟨⟨⟨⟨r0,r1⟩,r2⟩,r3⟩,r4⟩:=hr
    obtain ⟨⟨⟨g1,g2⟩,g3⟩,g4⟩:=h3
    have key:∀ l:List Sm,zan l=true→zim l=true→∀ s ∈ l,GdS s:=fun l hg hr s hs=>zsZ _ s (Nat.le_refl _) (zdx hg hs) (zgg hr hs)
    exact ⟨⟨fun v hv=>zqq (by simpa using h2 v hv) (List.all_eq_true.1 r0 v hv),key _ g1 r1,key _ g2 r2,key _ g3 r3,key _ g4 r4⟩,by omega⟩
end Go.Abs
namespace Go.Abs
open Go
section
variable {l:List TkD}
def At (l:List TkD):Nat→List TkD→Prop
 |_,[]=>True
 |k,t::r=>k<l.length∧zfk (l.getD k tk0)=zfk t∧At l (k+1) r
theorem At.app {a b:List TkD}:∀ {k:Nat},At l k (a++b) ↔ At l k a∧At l (k+a.length) b:=by
 induction a with
 |nil=>intro k;simp [At]
 |cons t r ih=>
  intro k
  simp only [List.cons_append,At,ih,List.length_cons,and_assoc]
  rw [show k+1+r.length=k+(r.length+1) by omega]
theorem At.of_strip:∀ {ts:List TkD} {k:Nat},k+ts.length≤l.length→(∀ i,i<ts.length→zfk (l.getD (k+i) tk0)=zfk (ts.getD i tk0))→At l k ts
 |[],_,_,_=>trivial
 |t::r,k,hl,h=>by
  simp only [List.length_cons] at hl h
  refine ⟨by omega,by simpa using h 0 (by omega),At.of_strip (by omega) (fun i hi=>?_)⟩
  have:=h (i+1) (by omega)
  rw [show k+1+i=k+(i+1) by omega]
  simpa using this
theorem At.whole {ts:List TkD} (h:l.map zfk=ts.map zfk):l.length=ts.length∧At l 0 ts:=by
 have hl:l.length=ts.length:=by simpa using congrArg List.length h
 refine ⟨hl,At.of_strip (by omega) (fun i hi=>?_)⟩
 have:=congrArg (fun x=>x[i]?) h
 simp only [List.getElem?_map] at this
 rw [List.getElem?_eq_getElem (by omega),List.getElem?_eq_getElem (by omega)] at this
 simp only [Option.map_some,Option.some.injEq] at this
 simp only [Nat.zero_add,List.getD,List.getElem?_eq_getElem (show i<l.length by omega),List.getElem?_eq_getElem hi,Option.getD_some]
 exact this
theorem zfe {a b:TkD} (h:zfk a=zfk b):a.kind=b.kind∧a.text=b.text∧a.value=b.value:=by
 obtain ⟨k,t,v,p⟩:=a
 obtain ⟨k',t',v',p'⟩:=b
 simp only [zfk,TkD.mk.injEq] at h
 exact ⟨h.1,h.2.1,h.2.2.1⟩
theorem At.peek {k:Nat} {t:TkD} {r:List TkD} (h:At l k (t::r)):zce l k=t.text:=by
 unfold zce
 rw [if_pos h.1,(zfe h.2.1).2.1]
theorem At.isT {k:Nat} {t:TkD} {r:List TkD} (h:At l k (t::r)) (s:List UInt8):Go.Abs.isT l k s=(t.text==s):=by
 unfold Go.Abs.isT
 rw [h.peek]
theorem At.isNum {k:Nat} {t:TkD} {r:List TkD} (h:At l k (t::r)):Go.Abs.isNum l k=(t.kind==2):=by
 unfold Go.Abs.isNum
 rw [(zfe h.2.1).1]
 simp [h.1]
theorem At.exp {k:Nat} {s:List UInt8} {r:List TkD} (h:At l k (tkS s::r)):za4 l s k=.ok () (k+1):=by
 unfold za4
 rw [h.isT]
 simp [tkS]
theorem At.expW {k:Nat} {s:List UInt8} {r:List TkD} (h:At l k (tkW s::r)):za4 l s k=.ok () (k+1):=by
 unfold za4
 rw [h.isT]
 simp [tkW]
theorem At.pnm {k:Nat} {s:List UInt8} {r:List TkD} (h:At l k (tkW s::r)) (hv:zbb s=true):zes l k=.ok s (k+1):=by
 unfold zes
 obtain ⟨h1,h2,h3⟩:=zfe h.2.1
 rw [h1,h2]
 rw [if_pos ⟨h.1,rfl,hv⟩]
 rfl
theorem At.nm {k:Nat} {n z:Int} {r:List TkD} (h:At l k (tkN n::r)) (hz:z≤n):nmF l z k=.ok n (k+1):=by
 unfold nmF
 obtain ⟨h1,h2,h3⟩:=zfe h.2.1
 rw [h1,h3]
 rw [if_pos ⟨h.1,rfl,hz⟩]
 rfl
theorem PR.bind_same {α β:Type} {r r':PR α} {f f':α→Nat→PR β} (h:(r.bind f).isOut=false) (hr:r.isOut=false→r'=r) (hf:∀ a k,(f a k).isOut=false→f' a k=f a k):r'.bind f'=r.bind f:=by
 cases r with
 |ok a k=>rw [hr rfl];exact hf a k h
 |bad k=>rw [hr rfl];rfl
 |out=>cases h
theorem zcH:∀ (n:Nat) (nt:Nt) (k:Nat),(exF l n nt k).isOut=false→exF l (n+1) nt k=exF l n nt k
 |0,nt,k,h=>by cases nt<;>cases h
 |n+1,.bin lv,k,h=>by
  rw [zfL l n lv k] at h
  rw [zfL l (n+1) lv k,zfL l n lv k]
  split at h
  ·rename_i c;rw [if_pos c,if_pos c];exact zcH n _ _ h
  ·rename_i c;rw [if_neg c,if_neg c];exact PR.bind_same h (zcH n _ _) (fun a k=>zcH n _ _)
 |n+1,.loop lv e,k,h=>by
  rw [zdN l n lv e k] at h
  rw [zdN l (n+1) lv e k,zdN l n lv e k]
  split at h
  ·rename_i c;rw [if_pos c,if_pos c]
  ·rename_i c;rw [if_neg c,if_neg c];exact PR.bind_same h (zcH n _ _) (fun a k=>zcH n _ _)
 |n+1,.un,k,h=>by
  rw [zio l n k] at h
  rw [zio l (n+1) k,zio l n k]
  split at h
  ·rename_i c;rw [if_pos c,if_pos c];exact PR.bind_same h (zcH n _ _) (fun a k _=>rfl)
  ·rename_i c;rw [if_neg c,if_neg c]
   split at h
   ·rename_i c;rw [if_pos c,if_pos c];exact PR.bind_same h (zcH n _ _) (fun a k _=>rfl)
   ·rename_i c;rw [if_neg c,if_neg c];exact zcH n _ _ h
 |n+1,.prim,k,h=>by
  rw [zcV l n k] at h
  rw [zcV l (n+1) k,zcV l n k]
  split at h
  ·rename_i c;rw [if_pos c,if_pos c]
  rename_i c;rw [if_neg c,if_neg c];clear c
  split at h
  ·rename_i c;rw [if_pos c,if_pos c]
  rename_i c;rw [if_neg c,if_neg c];clear c
  split at h
  ·rename_i c;rw [if_pos c,if_pos c]
  rename_i c;rw [if_neg c,if_neg c];clear c
  split at h
  ·rename_i c;rw [if_pos c,if_pos c]
  rename_i c;rw [if_neg c,if_neg c];clear c
  split at h
  ·rename_i c;rw [if_pos c,if_pos c]
  rename_i c;rw [if_neg c,if_neg c];clear c
  split at h
  ·rename_i c;rw [if_pos c,if_pos c];exact PR.bind_same h (zcH n _ _) (fun a k _=>rfl)
  ·rename_i c;rw [if_neg c,if_neg c]
   refine PR.bind_same h (fun _=>rfl) (fun a k h=>?_)
   split at h
   ·rename_i c;rw [if_pos c,if_pos c];exact PR.bind_same h (zcH n _ _) (fun a k _=>rfl)
   ·rename_i c;rw [if_neg c,if_neg c]
theorem zs0 {n m:Nat} {nt:Nt} {k:Nat} (h:(exF l n nt k).isOut=false) (hm:n≤m):exF l m nt k=exF l n nt k:=by
 obtain ⟨d,rfl⟩:∃ d,m=n+d:=⟨m - n,by omega⟩
 clear hm
 induction d with
 |zero=>rfl
 |succ d ih=>rw [←Nat.add_assoc,zcH _ _ _ (by rw [ih];exact h),ih]
def PE (l:List TkD) (nt:Nt) (k:Nat) (e:Ex) (k':Nat):Prop:=∃ n,exF l n nt k=.ok e k'
theorem PE.pex {k:Nat} {e:Ex} {k':Nat} (h:PE l (.bin 0) k e k') (hk:k≤l.length):zbN l k=.ok e k':=by
 obtain ⟨n,h⟩:=h
 have ho:=zdL hk
 unfold zbN at ho ⊢
 have hn:(exF l n (.bin 0) k).isOut=false:=by rw [h];rfl
 rcases Nat.le_total n (9 * l.length+20) with hle|hle
 ·rw [zs0 hn hle,h]
 ·rw [←h,zs0 ho hle]
theorem PE.lift {nt:Nt} {k k':Nat} {e:Ex} {n:Nat} (h:exF l n nt k=.ok e k') (m:Nat) (hm:n≤m):exF l m nt k=.ok e k':=by
 rw [zs0 (by rw [h];rfl) hm,h]
theorem PE.five {k k':Nat} {e:Ex} (h:PE l .un k e k'):PE l (.bin 5) k e k':=by
 obtain ⟨n,h⟩:=h
 exact ⟨n+1,by rw [zfL,if_pos rfl,h]⟩
theorem PE.loop0 {lv k:Nat} {e:Ex} (h:opF lv (zce l k)=0):PE l (.loop lv e) k e k:=⟨1,by rw [zdN,if_pos h]⟩
theorem PE.bin {lv k k1 k2:Nat} {e e2:Ex} (hl:lv<5) (h1:PE l (.bin (lv+1)) k e k1) (h2:PE l (.loop lv e) k1 e2 k2):PE l (.bin lv) k e2 k2:=by
 obtain ⟨n,h1⟩:=h1
 obtain ⟨m,h2⟩:=h2
 refine ⟨n+m+1,?_⟩
 rw [zfL,if_neg (by omega),PE.lift h1 (n+m) (by omega)]
 exact PE.lift h2 (n+m) (by omega)
theorem PE.up {lv k k1:Nat} {e:Ex} (hl:lv<5) (h1:PE l (.bin (lv+1)) k e k1) (h:opF lv (zce l k1)=0):PE l (.bin lv) k e k1:=PE.bin hl h1 (PE.loop0 h)
theorem PE.loop1 {lv k k2:Nat} {e e2:Ex} (h:opF lv (zce l k)≠0) (h1:PE l (.bin (lv+1)) (k+1) e2 k2) (h2:opF lv (zce l k2)=0):PE l (.loop lv e) k (exB (opF lv (zce l k)) e e2) k2:=by
 obtain ⟨n,h1⟩:=h1
 refine ⟨n+2,?_⟩
 rw [zdN,if_neg h,PE.lift h1 (n+1) (by omega)]
 show exF l (n+1) _ _=_
 rw [zdN,if_pos h2]
theorem PE.ups {j k k1:Nat} {e:Ex}:∀ (d i:Nat),i+d=j→j≤5→PE l (.bin j) k e k1→(∀ lv,i≤lv→lv<j→opF lv (zce l k1)=0)→PE l (.bin i) k e k1
 |0,i,h,_,hp,_=>by rw [show i=j by omega];exact hp
 |d+1,i,h,hj,hp,ho=>PE.up (by omega) (PE.ups d (i+1) (by omega) hj hp (fun lv h1 h2=>ho lv (by omega) h2)) (ho i (Nat.le_refl _) (by omega))
theorem PE.un0 {k k1:Nat} {e:Ex} (h:PE l .prim k e k1) (h1:isT l k [45]=false) (h2:isT l k [33]=false):PE l .un k e k1:=by
 obtain ⟨n,h⟩:=h
 exact ⟨n+1,by rw [zio,h1,h2];simpa using h⟩
theorem PE.un1 {k k1:Nat} {e:Ex} {op:Int} (ho:op=8∨op=9) (h:PE l .un (k+1) e k1) (h1:zce l k=sgF op.toNat):PE l .un k (exU op e) k1:=by
 obtain ⟨n,h⟩:=h
 refine ⟨n+1,?_⟩
 rw [zio]
 unfold isT
 rw [h1]
 rcases ho with rfl|rfl
 ·rw [if_pos (by decide),h];rfl
 ·rw [if_neg (by decide),if_pos (by decide),h];rfl
def zBT (l:List TkD) (k:Nat):Prop:=(∀ lv,opF lv (zce l k)=0)∧isT l k [91]=false
theorem At.noOp {k:Nat} {s:List UInt8} {r:List TkD} (h:At l k (tkS s::r)) (hs:s=[41]∨s=[93]∨s=[59]∨s=[44]∨s=[123]):zBT l k:=by
 unfold zBT
 rw [h.peek,h.isT]
 show (∀ lv,opF lv s=0)∧(s==[91])=false
 rcases hs with rfl|rfl|rfl|rfl|rfl
 all_goals exact ⟨fun lv=>by simp [opF],by decide⟩
theorem zbn {s t:List UInt8} (h:zbb s=true) (ht:zbb t=false):(s==t)=false:=by
 rw [beq_eq_false_iff_ne]
 rintro rfl
 rw [h] at ht
 cases ht
theorem zs1 {op:Nat} (h1:10≤op) (h2:op≤22) {lv:Nat} (h:lvF op<lv):opF lv (sgF op)=0:=by
 have key:∀ o<23,∀ v<5,10≤o→lvF o<v→opF v (sgF o)=0:=by decide
 by_cases h5:lv<5
 ·exact key op (by omega) lv h5 h1 h
 ·unfold opF
  rw [if_neg (by omega),if_neg (by omega),if_neg (by omega),if_neg (by omega),if_neg (by omega)]
theorem zBU (op:Nat):lvF op≤4:=by unfold lvF;(repeat' split);all_goals omega
theorem zs2 {op:Nat} (h:op≤22):(sgF op==[91])=false:=by
 have key:∀ o<23,(sgF o==[91])=false:=by decide
 exact key op (by omega)
theorem zjX {k:Nat} {s:List UInt8} {r:List TkD} (h:At l k (tkW s::r)) (hv:zbb s=true) :
  isNum l k=false∧isT l k [115,101,108,102]=false∧isT l k [112,114,111,99,115]=false∧isT l k [102,114,111,109]=false∧isT l k [118,97,108,117,101]=false∧isT l k [40]=false:=by
 rw [h.isNum,h.isT,h.isT,h.isT,h.isT,h.isT]
 exact ⟨rfl,zbn hv (by decide),zbn hv (by decide),zbn hv (by decide),zbn hv (by decide),zbn hv (by decide)⟩
theorem zBV:∀ {e:Ex},GdE e→(∀ k,e.op<8→At l k (tkE e)→isT l (k+(tkE e).length) [91]=false→PE l .prim k e (k+(tkE e).length)∧isT l k [45]=false∧isT l k [33]=false) ∧
  (∀ k,At l k (tkE e)→zBT l (k+(tkE e).length)→PE l (.bin 0) k e (k+(tkE e).length)):=by
 have fin:∀ {e:Ex},e.op<8→(∀ k,e.op<8→At l k (tkE e)→isT l (k+(tkE e).length) [91]=false→PE l .prim k e (k+(tkE e).length)∧isT l k [45]=false∧isT l k [33]=false) →
   (∀ k,At l k (tkE e)→zBT l (k+(tkE e).length)→PE l (.bin 0) k e (k+(tkE e).length)):=by
  intro e he h k ha hn
  obtain ⟨h1,h2,h3⟩:=h k he ha hn.2
  exact PE.ups 5 0 (by omega) (by omega) (PE.five (PE.un0 h1 h2 h3)) (fun lv _ _=>hn.1 lv)
 have opd:∀ {e:Ex},((∀ k,e.op<8→At l k (tkE e)→isT l (k+(tkE e).length) [91]=false→PE l .prim k e (k+(tkE e).length)∧isT l k [45]=false∧isT l k [33]=false) ∧
   (∀ k,At l k (tkE e)→zBT l (k+(tkE e).length)→PE l (.bin 0) k e (k+(tkE e).length))) →
   ∀ k,At l k (zjg (decide (e.op≥8),tkE e))→isT l (k+(zjg (decide (e.op≥8),tkE e)).length) [91]=false→PE l .un k e (k+(zjg (decide (e.op≥8),tkE e)).length):=by
  intro e ⟨h1,h2⟩ k ha hn
  by_cases h8:e.op≥8
  ·have hd:decide (e.op≥8)=true:=by simpa using h8
   rw [hd] at ha hn ⊢
   simp only [zjg,if_true] at ha hn ⊢
   have hb:=ha.2.2
   rw [At.app] at hb
   have hno:=hb.2.noOp (.inl rfl)
   obtain ⟨n,hp⟩:=h2 (k+1) hb.1 hno
   refine PE.un0 ⟨n+1,?_⟩ (by rw [ha.isT];rfl) (by rw [ha.isT];rfl)
   rw [zcV,ha.isNum,ha.isT,ha.isT,ha.isT,ha.isT,ha.isT]
   show (exF l n (.bin 0) (k+1)).bind _=_
   rw [hp]
   show (za4 l [41] _).bind _=_
   rw [hb.2.exp]
   show PR.ok e _=_
   simp only [List.length_cons,List.length_append,List.length_nil]
   congr 1
   omega
  ·have hd:decide (e.op≥8)=false:=by simpa using h8
   rw [hd] at ha hn ⊢
   simp only [zjg,Bool.false_eq_true,if_false] at ha hn ⊢
   obtain ⟨g1,g2,g3⟩:=h1 k (by omega) ha hn
   exact PE.un0 g1 g2 g3
 intro e he
 induction he with
 |num v h0 h1=>
  have P:∀ k,(exC v).op<8→At l k (tkE (exC v))→isT l (k+(tkE (exC v)).length) [91]=false→PE l .prim k (exC v) (k+(tkE (exC v)).length)∧isT l k [45]=false∧isT l k [33]=false:=by
   intro k _ ha _
   rw [zHh] at ha ⊢
   refine ⟨⟨1,?_⟩,by rw [ha.isT];rfl,by rw [ha.isT];rfl⟩
   rw [zcV,ha.isNum]
   show (nmF l 0 k).bind _=_
   rw [ha.nm h0]
   rfl
  exact ⟨P,fin (show (1:Int)<8 by omega) P⟩
 |name nm hv=>
  have P:∀ k,(exN nm).op<8→At l k (tkE (exN nm))→isT l (k+(tkE (exN nm)).length) [91]=false→PE l .prim k (exN nm) (k+(tkE (exN nm)).length)∧isT l k [45]=false∧isT l k [33]=false:=by
   intro k _ ha hn
   rw [zHi] at ha hn ⊢
   simp only [List.length_cons,List.length_nil,Nat.zero_add] at hn ⊢
   refine ⟨⟨1,?_⟩,by rw [ha.isT];exact zbn hv (by decide),by rw [ha.isT];exact zbn hv (by decide)⟩
   obtain ⟨i0,i1,i2,i3,i4,i5⟩:=zjX ha hv
   rw [zcV,i0,i1,i2,i3,i4,i5,ha.pnm hv]
   show (if isT l (k+1) [91]=true then _ else _)=_
   rw [hn]
   rfl
  exact ⟨P,fin (show (2:Int)<8 by omega) P⟩
 |index nm e hv he ih=>
  have P:∀ k,(exI nm e).op<8→At l k (tkE (exI nm e))→isT l (k+(tkE (exI nm e)).length) [91]=false→PE l .prim k (exI nm e) (k+(tkE (exI nm e)).length)∧isT l k [45]=false∧isT l k [33]=false:=by
   intro k _ ha _
   rw [zFA] at ha ⊢
   have hb:=ha.2.2.2.2
   rw [At.app] at hb
   obtain ⟨n,hp⟩:=ih.2 _ hb.1 (hb.2.noOp (.inr (.inl rfl)))
   refine ⟨⟨n+1,?_⟩,by rw [ha.isT];exact zbn hv (by decide),by rw [ha.isT];exact zbn hv (by decide)⟩
   obtain ⟨i0,i1,i2,i3,i4,i5⟩:=zjX ha hv
   rw [zcV,i0,i1,i2,i3,i4,i5,ha.pnm hv]
   show (if isT l (k+1) [91]=true then _ else _)=_
   rw [ha.2.2.isT]
   show (exF l n (.bin 0) _).bind _=_
   rw [hp]
   show (za4 l [93] _).bind _=_
   rw [hb.2.exp]
   show PR.ok _ _=_
   simp only [List.length_cons,List.length_append,List.length_nil]
   congr 1
   omega
  exact ⟨P,fin (show (3:Int)<8 by omega) P⟩
 |word op h1 h2=>
  have P:∀ k,(exK op).op<8→At l k (tkE (exK op))→isT l (k+(tkE (exK op)).length) [91]=false→PE l .prim k (exK op) (k+(tkE (exK op)).length)∧isT l k [45]=false∧isT l k [33]=false:=by
   intro k _ ha _
   rw [(zE6 op h1 h2).2] at ha ⊢
   have hop:op=4∨op=5∨op=6∨op=7:=by omega
   rcases hop with rfl|rfl|rfl|rfl
   all_goals
    refine ⟨⟨1,?_⟩,by rw [ha.isT];rfl,by rw [ha.isT];rfl⟩
    rw [zcV,ha.isNum,ha.isT,ha.isT,ha.isT,ha.isT]
    rfl
  exact ⟨P,fin (show op<8 by omega) P⟩
 |un op e ho he ih=>
  refine ⟨fun k h=>absurd h (by show ¬ op<8;omega),fun k ha hn=>?_⟩
  rw [zFB op e ho] at ha hn ⊢
  have hp:=opd ih (k+1) ha.2.2 (by rw [List.length_cons] at hn;rw [show k+1+(zjg (decide (e.op≥8),tkE e)).length=k+((zjg (decide (e.op≥8),tkE e)).length+1) by omega];exact hn.2)
  have h1:=PE.un1 ho hp (by rw [ha.peek];rfl)
  rw [List.length_cons,show k+((zjg (decide (e.op≥8),tkE e)).length+1)=k+1+(zjg (decide (e.op≥8),tkE e)).length by omega] at hn ⊢
  exact PE.ups 5 0 (by omega) (by omega) (PE.five h1) (fun lv _ _=>hn.1 lv)
 |bin op a b h1 h2 ha hb iha ihb=>
  refine ⟨fun k h=>absurd h (by show ¬ op<8;omega),fun k hA hn=>?_⟩
  rw [zFC op a b h1] at hA hn ⊢
  rw [At.app] at hA
  obtain ⟨n,rfl⟩:=Int.eq_ofNat_of_zero_le (show 0≤op by omega)
  rw [Int.toNat_natCast] at hA hn ⊢
  have e1:=hA.2.peek
  simp only [tkS] at e1
  have p1:=opd iha k hA.1 (by rw [hA.2.isT];exact zs2 (by omega))
  rw [List.length_append,List.length_cons] at hn ⊢
  generalize hka:k+(zjg (decide (a.op≥8),tkE a)).length=ka at *
  rw [show k+((zjg (decide (a.op≥8),tkE a)).length+((zjg (decide (b.op≥8),tkE b)).length+1))=ka+1+(zjg (decide (b.op≥8),tkE b)).length by omega] at hn ⊢
  have p2:=opd ihb (ka+1) hA.2.2.2 hn.2
  have hlv:=zBU n
  have q1:PE l (.bin (lvF n+1)) k a ka:=PE.ups (j:=5) (5 - (lvF n+1)) (lvF n+1) (by omega) (by omega) (PE.five p1) (fun lv h3 _=>by rw [e1];exact zs1 (by omega) (by omega) (by omega))
  have q2:PE l (.bin (lvF n+1)) (ka+1) b _:=PE.ups (j:=5) (5 - (lvF n+1)) (lvF n+1) (by omega) (by omega) (PE.five p2) (fun lv _ _=>hn.1 lv)
  have ho:=zwa n (by omega) (by omega)
  have q3:=PE.loop1 (lv:=lvF n) (e:=a) (by rw [e1,ho];omega) q2 (hn.1 _)
  rw [e1,ho] at q3
  exact PE.ups (lvF n) 0 (by omega) (by omega) (PE.bin (by omega) q1 q3) (fun lv _ _=>hn.1 lv)
theorem zgn {e:Ex} (he:GdE e) {k:Nat} {s:List UInt8} {r:List TkD} (h:At l k (tkE e++tkS s::r)) (hs:s=[41]∨s=[93]∨s=[59]∨s=[44]∨s=[123]):zbN l k=.ok e (k+(tkE e).length)∧At l (k+(tkE e).length) (tkS s::r):=by
 rw [At.app] at h
 refine ⟨((zBV he).2 k h.1 (h.2.noOp hs)).pex ?_,h.2⟩
 have:=h.2.1
 omega
end
end Go.Abs
namespace Go.Abs
open Go
section
variable {l:List TkD}
theorem zej:∀ (n:Nat) (nt:Ns) (k:Nat),(smF l n nt k).isOut=false→smF l (n+1) nt k=smF l n nt k
 |0,nt,k,h=>by cases nt<;>cases h
 |n+1,.block,k,h=>by
  rw [zc0 l n k] at h
  rw [zc0 l (n+1) k,zc0 l n k]
  exact PR.bind_same h (fun _=>rfl) (fun a k=>zej n _ _)
 |n+1,.stmts acc,k,h=>by
  rw [zcF l n acc k] at h
  rw [zcF l (n+1) acc k,zcF l n acc k]
  split at h
  ·rename_i c;rw [if_pos c,if_pos c]
  ·rename_i c;rw [if_neg c,if_neg c];exact PR.bind_same h (zej n _ _) (fun a k=>zej n _ _)
 |n+1,.stmt,k,h=>by
  rw [zbM l n k] at h
  rw [zbM l (n+1) k,zbM l n k]
  split at h
  ·rename_i c;rw [if_pos c,if_pos c]
   refine PR.bind_same h (fun _=>rfl) (fun a k h=>PR.bind_same h (zej n _ _) (fun b k h=>?_))
   split at h
   ·rename_i c;rw [if_pos c,if_pos c];exact PR.bind_same h (zej n _ _) (fun _ _ _=>rfl)
   ·rename_i c;rw [if_neg c,if_neg c]
  rename_i c;rw [if_neg c,if_neg c];clear c
  split at h
  ·rename_i c;rw [if_pos c,if_pos c]
   exact PR.bind_same h (fun _=>rfl) (fun a k h=>PR.bind_same h (zej n _ _) (fun b k h=>rfl))
  ·rename_i c;rw [if_neg c,if_neg c]
theorem zs3 {n m:Nat} {nt:Ns} {k:Nat} (h:(smF l n nt k).isOut=false) (hm:n≤m):smF l m nt k=smF l n nt k:=by
 obtain ⟨d,rfl⟩:∃ d,m=n+d:=⟨m - n,by omega⟩
 clear hm
 induction d with
 |zero=>rfl
 |succ d ih=>rw [←Nat.add_assoc,zej _ _ _ (by rw [ih];exact h),ih]
def PS (l:List TkD) (nt:Ns) (k:Nat) (b:List Sm) (k':Nat):Prop:=∃ n,smF l n nt k=.ok b k'
theorem PS.lift {nt:Ns} {k k':Nat} {e:List Sm} {n:Nat} (h:smF l n nt k=.ok e k') (m:Nat) (hm:n≤m):smF l m nt k=.ok e k':=by
 rw [zs3 (by rw [h];rfl) hm,h]
theorem PS.blk {k:Nat} {b:List Sm} {k':Nat} (h:PS l .block k b k') (hk:k≤l.length):zbk l k=.ok b k':=by
 obtain ⟨n,h⟩:=h
 have ho:=zd4 hk
 unfold zbk at ho ⊢
 have hn:(smF l n .block k).isOut=false:=by rw [h];rfl
 rcases Nat.le_total n (3 * l.length+20) with hle|hle
 ·rw [zs3 hn hle,h]
 ·rw [←h,zs3 ho hle]
theorem zjY {s:Sm} (hs:GdS s):∃ nm r,ziT s=tkW nm::r∧(nm==[125])=false∧(nm==[101,108,115,101])=false:=by
 cases hs with
 |assign nm v hn hv=>exact ⟨nm,_,rfl,zbn hn (by decide),zbn hn (by decide)⟩
 |store nm p v hn hp hv=>exact ⟨nm,_,rfl,zbn hn (by decide),zbn hn (by decide)⟩
 |put p v hp hv=>exact ⟨_,_,rfl,by decide,by decide⟩
 |out v hv=>exact ⟨_,_,rfl,by decide,by decide⟩
 |ife v b c hv hb hc=>exact ⟨_,_,rfl,by decide,by decide⟩
 |loop v b hv hb=>exact ⟨_,_,rfl,by decide,by decide⟩
def SP (l:List TkD) (s:Sm):Prop:=∀ k r,At l k (ziT s++r)→isT l (k+(ziT s).length) [101,108,115,101]=false→PS l .stmt k [s] (k+(ziT s).length)
theorem zs4:∀ (b:List Sm),(∀ s ∈ b,GdS s)→(∀ s ∈ b,SP l s)→∀ (acc:List Sm) (k:Nat) (r:List TkD),At l k (zfp b++tkS [125]::r)→PS l (.stmts acc) k (acc++b) (k+(zfp b).length+1)
 |[],_,_,acc,k,r,h=>by
  simp only [zfp,List.nil_append] at h
  exact ⟨1,by rw [zcF,h.isT];simp [tkS,zfp]⟩
 |s::t,hg,hp,acc,k,r,h=>by
  obtain ⟨nm,r',e1,e2,e3⟩:=zjY (hg s (by simp))
  simp only [zfp,List.append_assoc] at h
  have hb:isT l k [125]=false:=by
   rw [e1] at h
   rw [List.cons_append] at h
   rw [h.isT];exact e2
  have h2:=(At.app.1 h).2
  have hel:isT l (k+(ziT s).length) [101,108,115,101]=false:=by
   cases t with
   |nil=>simp only [zfp,List.nil_append] at h2;rw [h2.isT];rfl
   |cons s' t'=>
    obtain ⟨nm',r'',e1',e2',e3'⟩:=zjY (hg s' (by simp))
    simp only [zfp,List.append_assoc,e1',List.cons_append] at h2
    rw [h2.isT];exact e3'
  obtain ⟨n,p1⟩:=hp s (by simp) k _ h hel
  obtain ⟨m,p2⟩:=zs4 t (fun x hx=>hg x (by simp [hx])) (fun x hx=>hp x (by simp [hx])) (acc++[s]) _ r h2
  refine ⟨n+m+1,?_⟩
  rw [zcF,hb,if_neg (by simp),PS.lift p1 (n+m) (by omega)]
  show smF l (n+m) _ _=_
  rw [PS.lift p2 (n+m) (by omega)]
  simp only [zfp,List.length_append,List.append_assoc,List.singleton_append]
  congr 1
  omega
theorem zmz {b:List Sm} (hg:∀ s ∈ b,GdS s) (hp:∀ s ∈ b,SP l s) {k:Nat} {r:List TkD} (h:At l k (tkS [123]::(zfp b++tkS [125]::r))):PS l .block k b (k+(zfp b).length+2)∧At l (k+(zfp b).length+2) r:=by
 have h1:=h.2.2
 obtain ⟨n,p⟩:=zs4 b hg hp [] (k+1) r h1
 refine ⟨⟨n+1,?_⟩,?_⟩
 ·rw [zc0,h.exp]
  show smF l n _ _=_
  rw [p]
  simp only [List.nil_append]
  congr 1
  omega
 ·have:=(At.app.1 h1).2.2.2
  rw [show k+(zfp b).length+2=k+1+(zfp b).length+1 by omega]
  exact this
theorem zmA {k:Nat} {s:List UInt8} {r:List TkD} (h:At l k (tkW s::r)) (hv:zbb s=true) :
  isT l k [105,102]=false∧isT l k [119,104,105,108,101]=false∧isT l k [115,101,110,100]=false∧isT l k [111,117,116,112,117,116]=false:=by
 rw [h.isT,h.isT,h.isT,h.isT]
 exact ⟨zbn hv (by decide),zbn hv (by decide),zbn hv (by decide),zbn hv (by decide)⟩
theorem zHj (nm:List UInt8) (v:Ex):ziT (smE 1 nm exZ v [] [])=tkW nm::tkS [61]::(tkE v++[tkS [59]]):=rfl
theorem zHk (nm:List UInt8) (p v:Ex):ziT (smE 2 nm p v [] [])=tkW nm::tkS [91]::(tkE p++tkS [93]::tkS [61]::(tkE v++[tkS [59]])):=rfl
theorem zHl (p v:Ex):ziT (smE 5 [] p v [] [])=tkW [115,101,110,100]::(tkE p++tkS [44]::(tkE v++[tkS [59]])):=rfl
theorem zHm (v:Ex):ziT (smE 6 [] exZ v [] [])=tkW [111,117,116,112,117,116]::(tkE v++[tkS [59]]):=rfl
theorem zE7 (v:Ex) (b:List Sm) (x:Sm) (t:List Sm):ziT (smE 3 [] exZ v b (x::t))=tkW [105,102]::(tkE v++tkS [123]::(zfp b++tkS [125]::tkW [101,108,115,101]::tkS [123]::(zfp (x::t)++[tkS [125]]))):=rfl
theorem zHn (v:Ex) (b:List Sm):ziT (smE 3 [] exZ v b [])=tkW [105,102]::(tkE v++tkS [123]::(zfp b++[tkS [125]])):=rfl
theorem zHo (v:Ex) (b:List Sm):ziT (smE 4 [] exZ v b [])=tkW [119,104,105,108,101]::(tkE v++tkS [123]::(zfp b++[tkS [125]])):=rfl
theorem zyH {s:Sm} (hs:GdS s):SP l s:=by
 induction hs with
 |assign nm v hn hv=>
  intro k r h he
  rw [zHj] at h he ⊢
  simp only [List.cons_append,List.append_assoc,List.nil_append] at h
  obtain ⟨p1,p2⟩:=zgn hv h.2.2.2.2 (.inr (.inr (.inl rfl)))
  refine ⟨1,?_⟩
  obtain ⟨i1,i2,i3,i4⟩:=zmA h hn
  rw [zbM,i1,i2,i3,i4,h.pnm hn]
  show (if isT l (k+1) [91]=true then _ else _)=_
  rw [h.2.2.isT]
  show (za4 l [61] (k+1)).bind _=_
  rw [h.2.2.exp]
  show (zbN l (k+1+1)).bind _=_
  rw [p1]
  show (za4 l [59] _).bind _=_
  rw [p2.exp]
  show PR.ok _ _=_
  simp only [smE,List.length_cons,List.length_append,List.length_nil]
  congr 1
  omega
 |store nm p v hn hp hv=>
  intro k r h he
  rw [zHk] at h he ⊢
  simp only [List.cons_append,List.append_assoc,List.nil_append] at h
  obtain ⟨p1,p2⟩:=zgn hp h.2.2.2.2 (.inr (.inl rfl))
  obtain ⟨p3,p4⟩:=zgn hv p2.2.2.2.2 (.inr (.inr (.inl rfl)))
  refine ⟨1,?_⟩
  obtain ⟨i1,i2,i3,i4⟩:=zmA h hn
  rw [zbM,i1,i2,i3,i4,h.pnm hn]
  show (if isT l (k+1) [91]=true then _ else _)=_
  rw [h.2.2.isT]
  show (zbN l (k+1+1)).bind _=_
  rw [p1]
  show (za4 l [93] _).bind _=_
  rw [p2.exp]
  show (za4 l [61] _).bind _=_
  rw [p2.2.2.exp]
  show (zbN l _).bind _=_
  rw [p3]
  show (za4 l [59] _).bind _=_
  rw [p4.exp]
  show PR.ok _ _=_
  simp only [smE,List.length_cons,List.length_append,List.length_nil]
  congr 1
  omega
 |put p v hp hv=>
  intro k r h he
  rw [zHl] at h he ⊢
  simp only [List.cons_append,List.append_assoc,List.nil_append] at h
  obtain ⟨p1,p2⟩:=zgn hp h.2.2 (.inr (.inr (.inr (.inl rfl))))
  obtain ⟨p3,p4⟩:=zgn hv p2.2.2 (.inr (.inr (.inl rfl)))
  refine ⟨1,?_⟩
  rw [zbM,h.isT,h.isT,h.isT]
  show (zbN l (k+1)).bind _=_
  rw [p1]
  show (za4 l [44] _).bind _=_
  rw [p2.exp]
  show (zbN l _).bind _=_
  rw [p3]
  show (za4 l [59] _).bind _=_
  rw [p4.exp]
  show PR.ok _ _=_
  simp only [smE,List.length_cons,List.length_append,List.length_nil]
  congr 1
  omega
 |out v hv=>
  intro k r h he
  rw [zHm] at h he ⊢
  simp only [List.cons_append,List.append_assoc,List.nil_append] at h
  obtain ⟨p3,p4⟩:=zgn hv h.2.2 (.inr (.inr (.inl rfl)))
  refine ⟨1,?_⟩
  rw [zbM,h.isT,h.isT,h.isT,h.isT]
  show (zbN l (k+1)).bind _=_
  rw [p3]
  show (za4 l [59] _).bind _=_
  rw [p4.exp]
  show PR.ok _ _=_
  simp only [smE,List.length_cons,List.length_append,List.length_nil]
  congr 1
  omega
 |ife v b c hv hb hc ihb ihc=>
  intro k r h he
  cases c with
  |cons x t=>
   rw [zE7] at h he ⊢
   simp only [List.cons_append,List.append_assoc,List.nil_append] at h
   obtain ⟨p1,p2⟩:=zgn hv h.2.2 (.inr (.inr (.inr (.inr rfl))))
   obtain ⟨⟨n,q1⟩,q2⟩:=zmz hb ihb p2
   obtain ⟨⟨m,q3⟩,q4⟩:=zmz hc ihc q2.2.2
   refine ⟨n+m+1,?_⟩
   rw [zbM,h.isT]
   show (zbN l (k+1)).bind _=_
   rw [p1]
   show (smF l (n+m) .block _).bind _=_
   rw [PS.lift q1 (n+m) (by omega)]
   show (if isT l (k+1+(tkE v).length+(zfp b).length+2) [101,108,115,101]=true then _ else _)=_
   rw [q2.isT]
   show (smF l (n+m) .block _).bind _=_
   rw [PS.lift q3 (n+m) (by omega)]
   show PR.ok _ _=_
   simp only [smE,List.length_cons,List.length_append,List.length_nil]
   congr 1
   omega
  |nil=>
   rw [zHn] at h he ⊢
   simp only [List.cons_append,List.append_assoc,List.nil_append] at h
   obtain ⟨p1,p2⟩:=zgn hv h.2.2 (.inr (.inr (.inr (.inr rfl))))
   obtain ⟨⟨n,q1⟩,q2⟩:=zmz hb ihb p2
   refine ⟨n+1,?_⟩
   rw [zbM,h.isT]
   show (zbN l (k+1)).bind _=_
   rw [p1]
   show (smF l n .block _).bind _=_
   rw [q1]
   show (if isT l (k+1+(tkE v).length+(zfp b).length+2) [101,108,115,101]=true then _ else _)=_
   simp only [List.length_cons,List.length_append,List.length_nil] at he ⊢
   rw [show k+((tkE v).length+((zfp b).length+(0+1)+1)+1)=k+1+(tkE v).length+(zfp b).length+2 by omega] at he ⊢
   rw [he]
   rfl
 |loop v b hv hb ihb=>
  intro k r h he
  rw [zHo] at h he ⊢
  simp only [List.cons_append,List.append_assoc,List.nil_append] at h
  obtain ⟨p1,p2⟩:=zgn hv h.2.2 (.inr (.inr (.inr (.inr rfl))))
  obtain ⟨⟨n,q1⟩,q2⟩:=zmz hb ihb p2
  refine ⟨n+1,?_⟩
  rw [zbM,h.isT,h.isT]
  show (zbN l (k+1)).bind _=_
  rw [p1]
  show (smF l n .block _).bind _=_
  rw [q1]
  show PR.ok _ _=_
  simp only [smE,List.length_cons,List.length_append,List.length_nil]
  congr 1
  omega
theorem zvM {b:List Sm} (hg:∀ s ∈ b,GdS s) {k:Nat} {r:List TkD} (h:At l k (tkS [123]::(zfp b++tkS [125]::r))):zbk l k=.ok b (k+(zfp b).length+2)∧At l (k+(zfp b).length+2) r:=by
 obtain ⟨p,q⟩:=zmz hg (fun s hs=>zyH (hg s hs)) h
 exact ⟨p.blk (by have:=h.1;omega),q⟩
theorem zs5 {k:Nat} {r:List TkD} (h:At l k (tkS [59]::r)):zgF l k=.ok 0 k:=by
 unfold zgF
 rw [h.isT]
 rfl
theorem zyI {n:Int} {k:Nat} {r:List TkD} (h:At l k (tkS [61]::(tkI n++tkS [59]::r))):zgF l k=.ok n (k+1+(tkI n).length):=by
 unfold zgF
 rw [h.isT]
 show (if isT l (k+1) [45]=true then _ else _)=_
 have h1:=h.2.2
 unfold tkI at h1 ⊢
 by_cases hn:n<0
 ·rw [if_pos hn] at h1 ⊢
  simp only [List.cons_append,List.nil_append] at h1
  rw [h1.isT]
  show (nmF l 0 (k+1+1)).bind _=_
  rw [h1.2.2.nm (by omega)]
  show PR.ok _ _=_
  rw [Int.neg_neg]
  rfl
 ·rw [if_neg hn] at h1 ⊢
  simp only [List.cons_append,List.nil_append] at h1
  rw [h1.isT]
  show nmF l 0 (k+1)=_
  rw [h1.nm (by omega)]
  rfl
theorem zyJ {v:VarD} (hv:GV v) (n:Nat) (acc:List VarD) {k:Nat} {r:List TkD} (h:At l k (tkV v++r)):zia l (n+1) acc k=zia l n (acc++[v]) (k+(tkV v).length)∧At l (k+(tkV v).length) r:=by
 refine ⟨?_,(At.app.1 h).2⟩
 obtain ⟨nm,sz,ini⟩:=v
 have hvn:=hv.name
 have hs1:=hv.size
 have hone:=hv.one
 simp only at hvn hs1 hone
 rw [zgM]
 unfold tkV at h ⊢
 simp only at h ⊢
 by_cases hs:sz≠0
 ·rw [if_pos hs] at h ⊢
  simp only [List.cons_append,List.nil_append] at h
  rw [h.isT,h.isT]
  have h1:=h.2.2
  have h2:=h1.2.2
  have h3:=h2.2.2
  have h4:=h3.2.2
  have h5:=h4.2.2
  show (zes l (k+1)).bind _=_
  rw [h1.pnm hvn]
  show (za4 l [91] _).bind _=_
  rw [h2.exp]
  show (nmF l 1 _).bind _=_
  rw [h3.nm (by omega)]
  show (za4 l [93] _).bind _=_
  rw [h4.exp]
  show (za4 l [59] _).bind _=_
  rw [h5.exp]
  have hi:ini=0:=by rcases hone with h|h;exact absurd h hs;exact h
  subst hi
  rfl
 ·rw [if_neg hs] at h ⊢
  have hs0:sz=0:=by omega
  subst hs0
  by_cases hi:ini≠0
  ·rw [if_pos hi] at h ⊢
   simp only [List.cons_append,List.nil_append,List.append_assoc] at h
   rw [h.isT]
   have h1:=h.2.2
   have h2:=h1.2.2
   have h3:=(At.app.1 h2.2.2).2
   show (zes l (k+1)).bind _=_
   rw [h1.pnm hvn]
   show (zgF l _).bind _=_
   rw [zyI h2]
   show (za4 l [59] _).bind _=_
   rw [h3.exp]
   show zia l n _ _=_
   simp only [List.length_cons,List.length_append,List.length_nil]
   congr 1
   omega
  ·rw [if_neg hi] at h ⊢
   have hi0:ini=0:=by omega
   subst hi0
   simp only [List.cons_append,List.nil_append] at h
   rw [h.isT]
   have h1:=h.2.2
   have h2:=h1.2.2
   show (zes l (k+1)).bind _=_
   rw [h1.pnm hvn]
   show (zgF l _).bind _=_
   rw [zs5 h2]
   show (za4 l [59] _).bind _=_
   rw [h2.exp]
   rfl
theorem zwn:∀ (vs:List VarD),(∀ v ∈ vs,GV v)→∀ (n:Nat) (acc:List VarD) (k:Nat) (r:List TkD),At l k (zjh vs++r)→isT l (k+(zjh vs).length) [118,97,114]=false→isT l (k+(zjh vs).length) [97,114,114,97,121]=false →
  zia l (n+1+vs.length) acc k=.ok (acc++vs) (k+(zjh vs).length)
 |[],_,n,acc,k,r,h,h1,h2=>by
  simp only [zjh,List.map_nil,List.flatten_nil,List.length_nil,Nat.add_zero] at h1 h2 ⊢
  rw [zgM,h1,h2]
  simp
 |v::t,hv,n,acc,k,r,h,h1,h2=>by
  simp only [zjh,List.map_cons,List.flatten_cons,List.append_assoc] at h h1 h2 ⊢
  obtain ⟨p1,p2⟩:=zyJ (hv v (by simp)) (n+1+t.length) acc h
  rw [List.length_cons,←Nat.add_assoc,p1]
  rw [List.length_append,←Nat.add_assoc] at h1 h2 ⊢
  rw [zwn t (fun x hx=>hv x (by simp [hx])) n (acc++[v]) _ r p2 h1 h2]
  simp [zjh]
def hw (j:Nat):List UInt8:=if j=0 then [115,116,97,114,116] else if j=1 then [109,101,115,115,97,103,101] else if j=2 then [116,105,99,107] else [105,110,112,117,116]
def zCy (p:PgD) (j:Nat) (b:List Sm):PgD:=if j=0 then { p with start:=b } else if j=1 then { p with message:=b } else if j=2 then { p with tick:=b } else { p with input:=b }
def zy6 (z:Seen) (j:Nat):Seen:=if j=0 then { z with s:=true } else if j=1 then { z with m:=true } else if j=2 then { z with t:=true } else { z with i:=true }
def zwo (z:Seen) (j:Nat):Bool:=if j=0 then z.s else if j=1 then z.m else if j=2 then z.t else z.i
theorem zBW {j:Nat} {n:Nat} {p:PgD} {z:Seen} {k:Nat} {b:List Sm} {r:List TkD} (hj:j<4) (hb:b≠[]) (hg:∀ s ∈ b,GdS s) (h:At l k (tkH (hw j) b++r)) (hz:zwo z j=false) :
  zhd l (n+1) p z k=zhd l n (zCy p j b) (zy6 z j) (k+(tkH (hw j) b).length)∧At l (k+(tkH (hw j) b).length) r:=by
 refine ⟨?_,(At.app.1 h).2⟩
 have hl:¬ b.length=0:=fun h=>hb (List.length_eq_zero_iff.1 h)
 unfold tkH at h ⊢
 rw [if_neg hl] at h ⊢
 simp only [List.cons_append,List.append_assoc,List.nil_append] at h
 have h1:=h.2.2
 obtain ⟨p1,_⟩:=zvM hg h1.2.2
 rw [zkY,if_pos h.1,h.expW]
 show (if (!z.s&&isT l (k+1) [115,116,97,114,116])=true then _ else if (!z.m&&isT l (k+1) [109,101,115,115,97,103,101])=true then _ else if (!z.t&&isT l (k+1) [116,105,99,107])=true then _ else if (!z.i&&isT l (k+1) [105,110,112,117,116])=true then _ else _)=_
 rw [h1.isT,h1.isT,h1.isT,h1.isT]
 have e:k+(tkW [111,110]::tkW (hw j)::tkS [123]::(zfp b++[tkS [125]])).length=k+1+1+(zfp b).length+2:=by
  simp only [List.length_cons,List.length_append,List.length_nil];omega
 rw [e]
 have hjj:j=0∨j=1∨j=2∨j=3:=by omega
 rcases hjj with rfl|rfl|rfl|rfl
 all_goals
  simp [zwo] at hz
  simp [hw,tkW,hz,zCy,zy6]
  rw [p1]
  rfl
theorem zyK {n:Nat} {p:PgD} {z:Seen} {k:Nat} (h:¬ k<l.length):zhd l (n+1) p z k=.ok p k:=by rw [zkY,if_neg h]
def ziL:List (Nat × List Sm)→List TkD
 |[]=>[]
 |q::r=>tkH (hw q.1) q.2++ziL r
def zmB:PgD→List (Nat × List Sm)→PgD
 |p,[]=>p
 |p,q::r=>zmB (if q.2.length=0 then p else zCy p q.1 q.2) r
def zs6:Seen→List (Nat × List Sm)→Seen
 |z,[]=>z
 |z,q::r=>zs6 (if q.2.length=0 then z else zy6 z q.1) r
def zqx:List (Nat × List Sm)→Nat
 |[]=>0
 |q::r=>(if q.2.length=0 then 0 else 1)+zqx r
theorem zs7:∀ hs:List (Nat × List Sm),zqx hs≤(ziL hs).length
 |[]=>by simp [zqx]
 |q::r=>by
  have:=zs7 r
  simp only [zqx,ziL,List.length_append,tkH]
  split
  ·simp;omega
  ·simp;omega
theorem zvN (z:Seen) (i j:Nat) (hi:i<4) (hj:j<4):zwo (zy6 z i) j=(zwo z j || decide (i=j)):=by
 have h1:i=0∨i=1∨i=2∨i=3:=by omega
 have h2:j=0∨j=1∨j=2∨j=3:=by omega
 rcases h1 with rfl|rfl|rfl|rfl<;>rcases h2 with rfl|rfl|rfl|rfl<;>simp [zwo,zy6]
theorem zld:∀ (hs:List (Nat × List Sm)),(∀ q ∈ hs,q.1<4∧∀ s ∈ q.2,GdS s)→(hs.map Prod.fst).Nodup→∀ (n:Nat) (p:PgD) (z:Seen) (k:Nat) (r:List TkD),(∀ q ∈ hs,zwo z q.1=false)→At l k (ziL hs++r) →
  zhd l (n+zqx hs) p z k=zhd l n (zmB p hs) (zs6 z hs) (k+(ziL hs).length)∧At l (k+(ziL hs).length) r
 |[],_,_,n,p,z,k,r,_,h=>⟨rfl,h⟩
 |q::t,hg,hd,n,p,z,k,r,hz,h=>by
  obtain ⟨j,b⟩:=q
  simp only [List.map_cons,List.nodup_cons] at hd
  have hq:=hg (j,b) (by simp)
  simp only [ziL,List.append_assoc] at h
  by_cases hb:b.length=0
  ·have e:tkH (hw j) b=[]:=by unfold tkH;rw [if_pos hb]
   simp only [ziL,zqx,zmB,zs6,hb,if_true,Nat.zero_add,e,List.nil_append] at h ⊢
   exact zld t (fun x hx=>hg x (by simp [hx])) hd.2 n p z k r (fun x hx=>hz x (by simp [hx])) h
  ·have hne:b≠[]:=fun h=>hb (by rw [h];rfl)
   have hz0:=hz (j,b) (by simp)
   obtain ⟨p1,p2⟩:=zBW (n:=n+zqx t) (p:=p) (z:=z) hq.1 hne hq.2 h hz0
   have:=zld t (fun x hx=>hg x (by simp [hx])) hd.2 n (zCy p j b) (zy6 z j) _ r (fun x hx=>by
    rw [zvN z j x.1 hq.1 (hg x (by simp [hx])).1,hz x (by simp [hx])]
    have:j≠x.1:=fun h=>hd.1 (h ▸ List.mem_map_of_mem hx)
    simpa using this) p2
   simp only [ziL,zqx,zmB,zs6,hb,if_false,List.length_append]
   rw [show n+(1+zqx t)=n+zqx t+1 by omega,p1,←Nat.add_assoc]
   exact this
end
end Go.Abs
namespace Go.Abs
open Go
def hsT:List (Nat × List Sm)→List UInt8
 |[]=>[]
 |q::r=>hdT (hw q.1) q.2++hsT r
theorem zBX (j:Nat):((hw j).all isW&&isL ((hw j).getD 0 0)&&decide ((hw j).length≤16))=true∧hw j≠[]:=by
 unfold hw
 repeat' split
 all_goals exact ⟨by decide,by decide⟩
theorem zwp {S:List UInt8→List TkD→Prop} (C:Cl S):∀ (hs:List (Nat × List Sm)),(∀ q ∈ hs,∀ s ∈ q.2,GdS s)→∀ {u:List UInt8} {l:List TkD},S u l→S (hsT hs++u) (ziL hs++l)
 |[],_,_,_,h=>h
 |q::r,hg,_,_,h=>by
  have h1:=zBR C (zBX q.1).1 (zBX q.1).2 (hg q (by simp)) (zwp C r (fun x hx=>hg x (by simp [hx])) h)
  simpa [hsT,ziL] using h1
def z0:Seen:=⟨false,false,false,false⟩
theorem zpg:∀ vs:List VarD,vs.length≤(zjh vs).length
 |[]=>by simp
 |v::r=>by
  have:=zpg r
  have h1:0<(tkV v).length:=by
   unfold tkV
   repeat' split
   all_goals simp
  simp only [zjh,List.map_cons,List.flatten_cons,List.length_append,List.length_cons] at this ⊢
  omega
theorem zjZ:∀ (hs:List (Nat × List Sm)),ziL hs=[]∨∃ r,ziL hs=tkW [111,110]::r
 |[]=>.inl rfl
 |q::t=>by
  rw [ziL]
  unfold tkH
  split
  ·rw [List.nil_append];exact zjZ t
  ·exact .inr ⟨_,rfl⟩
theorem zs8 {l:List TkD} {vs:List VarD} {hs:List (Nat × List Sm)} {rest:List TkD} (hv:∀ v ∈ vs,GV v) (hg:∀ q ∈ hs,q.1<4∧∀ s ∈ q.2,GdS s) (hd:(hs.map Prod.fst).Nodup)
  (h:l.map zfk=(zjh vs++(ziL hs++rest)).map zfk) (hr:rest=[]∨∃ r,rest=tkW [111,110]::r) :
  ∃ n,zja l=zhd l (n+1) (zmB ⟨vs,[],[],[],[]⟩ hs) (zs6 z0 hs) ((zjh vs).length+(ziL hs).length)∧At l ((zjh vs).length+(ziL hs).length) rest∧l.length=(zjh vs).length+((ziL hs).length+rest.length):=by
 obtain ⟨hl,hA⟩:=At.whole h
 simp only [List.length_append] at hl
 have h1:=zpg vs
 have h2:=zs7 hs
 have hB:=At.app.1 hA
 rw [Nat.zero_add] at hB
 have hfirst:isT l (zjh vs).length [118,97,114]=false∧isT l (zjh vs).length [97,114,114,97,121]=false:=by
  have key:ziL hs++rest=[]∨∃ r,ziL hs++rest=tkW [111,110]::r:=by
   rcases zjZ hs with e|⟨r,e⟩
   ·rw [e,List.nil_append];exact hr
   ·rw [e];exact .inr ⟨_,rfl⟩
  rcases key with e|⟨r,e⟩
  ·have he:(ziL hs++rest).length=0:=by rw [e];rfl
   rw [List.length_append] at he
   unfold isT zce
   rw [if_neg (by omega)]
   exact ⟨by decide,by decide⟩
  ·have:=hB.2
   rw [e] at this
   rw [this.isT,this.isT]
   exact ⟨rfl,rfl⟩
 obtain ⟨a,ha⟩:∃ a,l.length+1=a+1+vs.length:=⟨l.length - vs.length,by omega⟩
 have p1:=zwn vs hv a [] 0 _ hA (by rw [Nat.zero_add];exact hfirst.1) (by rw [Nat.zero_add];exact hfirst.2)
 rw [Nat.zero_add,List.nil_append] at p1
 obtain ⟨n,hn⟩:∃ n,l.length+1=n+1+zqx hs:=⟨l.length - zqx hs,by omega⟩
 have hz:∀ q ∈ hs,zwo z0 q.1=false:=by
  intro q _
  unfold zwo z0
  repeat' split
  all_goals rfl
 obtain ⟨p2,p3⟩:=zld hs hg hd (n+1) ⟨vs,[],[],[],[]⟩ z0 _ rest hz hB.2
 refine ⟨n,?_,p3,hl⟩
 unfold zja
 rw [show zia l (l.length+1) [] 0=.ok vs (zjh vs).length by rw [ha];exact p1]
 show zhd l (l.length+1) _ z0 _=_
 rw [hn]
 exact p2
theorem zvO {vs:List VarD} {hs:List (Nat × List Sm)} (hv:∀ v ∈ vs,GV v) (hg:∀ q ∈ hs,q.1<4∧∀ s ∈ q.2,GdS s) (hd:(hs.map Prod.fst).Nodup) (hl:(vsT vs++hsT hs).length≤4096)
  (hdep:znc (zmB ⟨vs,[],[],[],[]⟩ hs)≤16):zmN (vsT vs++hsT hs)=(zmB ⟨vs,[],[],[],[]⟩ hs,0,0):=by
 have h1:=zwm zBP vs hv (zwp zBP hs (fun q hq=>(hg q hq).2) Su.nil)
 rw [List.append_nil,List.append_nil] at h1
 obtain ⟨l,h2,h3⟩:=h1.sc
 rw [show zjh vs++ziL hs=zjh vs++(ziL hs++[]) by rw [List.append_nil]] at h3
 obtain ⟨n,p1,_,p3⟩:=zs8 hv hg hd h3 (.inl rfl)
 have hsc:=h2.scan hl
 unfold zmN
 rw [hsc]
 simp only [ne_eq,not_true_eq_false,if_false]
 rw [p1,zyK (by simp only [List.length_nil] at p3;omega)]
 simp only
 rw [if_neg (by omega)]
theorem zs9 (p:PgD):pgT p=vsT p.vars++hsT [(0,p.start),(1,p.message),(2,p.tick),(3,p.input)]:=by
 simp [pgT,hsT,hw]
theorem zta (vs:List VarD) (a b c d:List Sm):zmB ⟨vs,[],[],[],[]⟩ [(0,a),(1,b),(2,c),(3,d)]=⟨vs,a,b,c,d⟩:=by
 cases a<;>cases b<;>cases c<;>cases d<;>rfl
theorem ztb {p:PgD} (hp:GP p) (hd:znc p≤16) (hl:(pgT p).length≤4096):zmN (pgT p)=(p,0,0):=by
 have e:=zta p.vars p.start p.message p.tick p.input
 rw [zs9] at hl ⊢
 have:=zvO (vs:=p.vars) (hs:=[(0,p.start),(1,p.message),(2,p.tick),(3,p.input)]) hp.vars (by
  intro q hq
  simp only [List.mem_cons,List.not_mem_nil,or_false] at hq
  rcases hq with rfl|rfl|rfl|rfl
  ·exact ⟨show (0:Nat)<4 by omega,hp.start⟩
  ·exact ⟨show (1:Nat)<4 by omega,hp.message⟩
  ·exact ⟨show (2:Nat)<4 by omega,hp.tick⟩
  ·exact ⟨show (3:Nat)<4 by omega,hp.input⟩) (show ([0,1,2,3]:List Nat).Nodup by decide) hl (by rw [e];exact hd)
 rw [e] at this
 exact this
def ztw (a b:Bool) (slot size c:Int):Bool:=(a || b)&&(decide (slot<0) || decide (IntKind.i64.wrap (slot+zc3 size 1) > c))
mutual
def zqr (c:Int):Ex→Bool
 |.mk op _ _ slot size args=>!ztw (op==2) (op==3) slot size c&&ziM c args
def ziM (c:Int):List Ex→Bool
 |[]=>true
 |e::r=>zqr c e&&ziM c r
end
mutual
def zwq (c:Int):Sm→Bool
 |.mk kind _ slot size place value body els=>!ztw (kind==1) (kind==2) slot size c&&(zqr c place&&zqr c value&&zji c body&&zji c els)
def zji (c:Int):List Sm→Bool
 |[]=>true
 |e::r=>zwq c e&&zji c r
end
open Go
def nn (s:List UInt8):List UInt8:=if s=[] then [] else 110::95::s
mutual
def zE8:Ex→Ex
 |.mk op v n a b args=>.mk op v (nn n) a b (zBY args)
def zBY:List Ex→List Ex
 |[]=>[]
 |e::r=>zE8 e::zBY r
end
mutual
def rnS:Sm→Sm
 |.mk k n a b p v body els=>.mk k (nn n) a b (zE8 p) (zE8 v) (zE9 body) (zE9 els)
def zE9:List Sm→List Sm
 |[]=>[]
 |e::r=>rnS e::zE9 r
end
mutual
def nmE:Ex→Prop
 |.mk _ _ n _ _ args=>n.length≤1000∧zj0 args
def zj0:List Ex→Prop
 |[]=>True
 |e::r=>nmE e∧zj0 r
end
mutual
def nmS:Sm→Prop
 |.mk _ n _ _ p v body els=>n.length≤1000∧nmE p∧nmE v∧znM body∧znM els
def znM:List Sm→Prop
 |[]=>True
 |e::r=>nmS e∧znM r
end
open Go
abbrev NmP:=List UInt8→Prop
inductive WfE (S A:NmP):Nat→Ex→Prop
 |leaf (d:Nat) (op value:Int):(op=1∧0≤value)∨(4≤op∧op≤7∧value=0)→WfE S A d (exL op value [] [])
 |scal (d:Nat) (n:List UInt8):S n→WfE S A d (exL 2 0 n [])
 |arr (d:Nat) (n:List UInt8) (e:Ex):A n→WfE S A d e→WfE S A (d+1) (exL 3 0 n [e])
 |un (d:Nat) (op:Int) (e:Ex):op=8∨op=9→WfE S A d e→WfE S A (d+1) (exL op 0 [] [e])
 |bin (d:Nat) (op:Int) (e f:Ex):10≤op∧op≤22→WfE S A d e→WfE S A d f→WfE S A (d+1) (exL op 0 [] [e,f])
inductive WfS (S A:NmP):Nat→Sm→Prop
 |assign (d:Nat) (n:List UInt8) (v:Ex):S n→WfE S A 3 v→WfS S A d (smL 1 n ex0 v [] [])
 |store (d:Nat) (n:List UInt8) (p v:Ex):A n→WfE S A 3 p→WfE S A 3 v→WfS S A d (smL 2 n p v [] [])
 |send (d:Nat) (p v:Ex):WfE S A 3 p→WfE S A 3 v→WfS S A d (smL 5 [] p v [] [])
 |out (d:Nat) (v:Ex):WfE S A 3 v→WfS S A d (smL 6 [] ex0 v [] [])
 |ite (d:Nat) (v:Ex) (b e:List Sm):WfE S A 3 v→(∀ s,s ∈ b→WfS S A d s)→(∀ s,s ∈ e→WfS S A d s)→WfS S A (d+1) (smL 3 [] ex0 v b e)
 |whl (d:Nat) (v:Ex) (b:List Sm):WfE S A 3 v→(∀ s,s ∈ b→WfS S A d s)→WfS S A (d+1) (smL 4 [] ex0 v b [])
theorem WfE.up {S A:NmP} {d:Nat} {e:Ex} (h:WfE S A d e):WfE S A (d+1) e:=by
 induction h with
 |leaf d op v h=>exact .leaf _ op v h
 |scal d n h=>exact .scal _ n h
 |arr d n e h _ ih=>exact .arr _ n e h ih
 |un d op e h _ ih=>exact .un _ op e h ih
 |bin d op e f h _ _ ih1 ih2=>exact .bin _ op e f h ih1 ih2
def S0:NmP:=fun n=>n=[120]∨n=[121]∨n=[122]
def A0:NmP:=fun n=>n=[97]∨n=[98]
theorem zle (i:Int):S0 (scal i):=by
 unfold scal S0
 by_cases h:i=0
 ·simp [h]
 ·by_cases h1:i=1<;>simp [h,h1]
theorem znN (i:Int):A0 (ztt i):=by unfold ztt A0;split<;>simp
theorem zmC (xs:List UInt8) (rec:Nat→Ex × Nat) (d:Nat) (hr:∀ a,WfE S0 A0 d (rec a).1) (a:Nat):WfE S0 A0 (d+1) (zbL xs rec false a).1:=by
 have h12:=zaG xs a 12 (by omega)
 unfold zbL
 simp only [kF,Bool.false_and,Bool.false_eq_true,if_false,or_false]
 repeat' split
 ·exact .leaf _ _ _ (.inl ⟨rfl,(zaG _ _ 5 (by omega)).1⟩)
 ·exact .scal _ _ (zle _)
 ·exact .leaf _ _ _ (.inr (by omega))
 ·refine .leaf _ _ _ (.inr ?_)
  unfold opN
  repeat' split
  all_goals omega
 ·have:=(zaG xs (nxt xs a 12).2 200 (by omega)).1
  exact .leaf _ _ _ (.inl ⟨rfl,by omega⟩)
 ·exact .arr _ _ _ (znN _) (hr _)
 ·have:=zaG xs (nxt xs a 12).2 2 (by omega)
  exact .un _ _ _ (by omega) (hr _)
 ·have:=zaG xs (rec (nxt xs a 12).2).2 13 (by omega)
  exact .bin _ _ _ _ (by omega) (hr _) (hr _)
theorem zg5 (xs:List UInt8) (rec:Nat→Ex × Nat) (d:Nat) (a:Nat):WfE S0 A0 d (zbL xs rec true a).1:=by
 have h12:=zaG xs a 12 (by omega)
 unfold zbL
 simp only [kF,Bool.true_and,or_true,if_true,decide_eq_true_eq]
 generalize (if (nxt xs a 12).1≥8 then (nxt xs a 12).1 - 8 else (nxt xs a 12).1)=q
 repeat' split
 ·exact .leaf _ _ _ (.inl ⟨rfl,(zaG _ _ 5 (by omega)).1⟩)
 ·exact .scal _ _ (zle _)
 ·exact .leaf _ _ _ (.inr (by omega))
 ·refine .leaf _ _ _ (.inr ?_)
  unfold opN
  repeat' split
  all_goals omega
 ·have:=(zaG xs (nxt xs a 12).2 200 (by omega)).1
  exact .leaf _ _ _ (.inl ⟨rfl,by omega⟩)
theorem zeY (xs:List UInt8):∀ (d a:Nat),WfE S0 A0 d (za2 xs d a).1
 |0,a=>zg5 xs _ 0 a
 |1,a=>zg5 xs _ 1 a
 |d+2,a=>zmC xs _ (d+1) (fun a=>zeY xs (d+1) a) a
theorem zmD (xs:List UInt8) (rec:Int→Nat→List Sm × Nat) (d:Nat) (hr:∀ m a s,s ∈ (rec m a).1→WfS S0 A0 d s) (a:Nat):WfS S0 A0 (d+1) (za5 xs rec false a).1:=by
 have e2:=fun a=>(zeY xs 2 a).up
 have e3:=fun a=>zeY xs 3 a
 unfold za5
 simp only [kF,Bool.false_and,Bool.false_eq_true,if_false]
 repeat' split
 ·exact .assign _ _ _ (zle _) (e3 _)
 ·exact .store _ _ _ _ (znN _) (e2 _) (e2 _)
 ·exact .send _ _ _ (e2 _) (e2 _)
 ·exact .out _ _ (e2 _)
 ·exact .ite _ _ _ _ (e2 _) (hr _ _) (hr _ _)
 ·exact .whl _ _ _ (e2 _) (hr _ _)
theorem zg6 (xs:List UInt8) (rec:Int→Nat→List Sm × Nat) (d:Nat) (a:Nat):WfS S0 A0 d (za5 xs rec true a).1:=by
 have e2:=fun a=>(zeY xs 2 a).up
 have e3:=fun a=>zeY xs 3 a
 have h10:=zaG xs a 10 (by omega)
 unfold za5
 simp only [kF,Bool.true_and,decide_eq_true_eq]
 have hq:(if (nxt xs a 10).1≥7 then (nxt xs a 10).1 - 7 else (nxt xs a 10).1)<7:=by split<;>omega
 generalize (if (nxt xs a 10).1≥7 then (nxt xs a 10).1 - 7 else (nxt xs a 10).1)=q at *
 repeat' split
 ·exact .assign _ _ _ (zle _) (e3 _)
 ·exact .store _ _ _ _ (znN _) (e2 _) (e2 _)
 ·exact .send _ _ _ (e2 _) (e2 _)
 ·exact .out _ _ (e2 _)
 ·omega
 ·omega
theorem zdd (xs:List UInt8) (rec:Int→Nat→List Sm × Nat) (small:Bool) (R:Sm→Prop) (h:∀ a,R (za5 xs rec small a).1):∀ (n a:Nat) (s:Sm),s ∈ (zaQ xs rec small n a).1→R s
 |0,a,s,hs=>by simp [zaQ] at hs
 |n+1,a,s,hs=>by
  simp only [zaQ,List.mem_cons] at hs
  rcases hs with rfl|hs
  ·exact h a
  ·exact zdd xs rec small R h n _ s hs
theorem zd8 (xs:List UInt8):∀ (d:Nat) (m:Int) (a:Nat) (s:Sm),s ∈ (zcb xs d m a).1→WfS S0 A0 d s
 |0,m,a,s,hs=>zdd xs _ _ _ (fun a=>zg6 xs _ 0 a) _ _ s hs
 |1,m,a,s,hs=>zdd xs _ _ _ (fun a=>zg6 xs _ 1 a) _ _ s hs
 |d+2,m,a,s,hs=>zdd xs _ _ _ (fun a=>zmD xs _ (d+1) (fun m a s hs=>zd8 xs (d+1) m a s hs) a) _ _ s hs
structure Kn (S A:NmP) (L:List VarD) (n:Int):Prop where
 s:∀ x,S x→x.length≤100∧zbb x=true∧(zaA x 0 L).2=(0,true)∧0≤(zaA x 0 L).1∧(zaA x 0 L).1+1≤n
 a:∀ x,A x→x.length≤100∧zbb x=true∧(zaA x 0 L).2.2=true∧1≤(zaA x 0 L).2.1∧0≤(zaA x 0 L).1∧(zaA x 0 L).1+(zaA x 0 L).2.1≤n
 n:n≤1000
structure GE (L:List VarD) (n:Int) (d:Nat) (e:Ex):Prop where
 good:zbc e=true
 names:zcZ L e=true
 shape:(r3E L e).2=true
 ins:zqr n (r3E L e).1=true
 nm:nmE e
 nm2:nmE (r3E L e).1
 dep:ze8 e≤d+1
theorem zlf (a b:Bool) (slot size n:Int) (h0:0≤slot) (h1:slot+zc3 size 1≤n) (hn:n≤1000):ztw a b slot size n=false:=by
 have:1≤zc3 size 1:=by unfold zc3;split<;>omega
 unfold ztw
 rw [zaB _ (by omega) (by omega)]
 have e1:decide (slot<0)=false:=by simp;omega
 have e2:decide (slot+zc3 size 1 > n)=false:=by simp;omega
 rw [e1,e2]
 simp
theorem zph {z:Int} (h:1≤z):zc3 z 1=z:=by unfold zc3;split<;>omega
theorem WfE.ge {S A:NmP} {L:List VarD} {n:Int} (K:Kn S A L n) {d:Nat} {e:Ex} (h:WfE S A d e):GE L n d e:=by
 induction h with
 |leaf d op v h=>
  have h3:(op==2)=false∧(op==3)=false:=by constructor<;>(simp;omega)
  have har:zdK op=0:=by unfold zdK;repeat' split<;>omega
  have hh:zb4 L op [] 0 0 2 3=((0,0),true):=by simp [zb4,h3]
  refine ⟨?_,?_,?_,?_,?_,?_,?_⟩
  ·have hv:(!(decide (v<0) || v != 0&&op != 1))=true:=by
    rcases h with ⟨rfl,h⟩|⟨h1,h2,rfl⟩
    ·simp;omega
    ·simp
   simp only [exL,zbc,zd0,har,zby,zaW,h3,hv,List.length_nil]
   simp
  ·simp [exL,zcZ,zb3,h3]
  ·simp [exL,r3E,zd1,hh]
  ·simp [exL,r3E,zd1,zqr,ziM,ztw,h3]
  ·simp [exL,nmE,zj0]
  ·simp [exL,r3E,zd1,nmE,zj0]
  ·simp only [exL,ze8,zdb];omega
 |scal d x h=>
  obtain ⟨k1,k2,k3,k4,k5⟩:=K.s x h
  have hn:=K.n
  have hh:zb4 L 2 x 0 0 2 3=(((zaA x 0 L).1,0),true):=by simp [zb4,k3]
  refine ⟨?_,?_,?_,?_,?_,?_,?_⟩
  ·simp [exL,zbc,zd0,zby,zaW,k2,zdK]
  ·simp [exL,zcZ,zb3,zjH,k3]
  ·simp [exL,r3E,zd1,hh]
  ·simp only [exL,r3E,zd1,zqr,ziM,hh]
   rw [zlf _ _ _ _ _ k4 (by simpa [zc3] using k5) hn]
   rfl
  ·simp only [exL,nmE,zj0];exact ⟨by omega,trivial⟩
  ·simp only [exL,r3E,zd1,nmE,zj0];exact ⟨by omega,trivial⟩
  ·simp only [exL,ze8,zdb];omega
 |arr d x e h _ ih=>
  obtain ⟨k1,k2,k3,k4,k5,k6⟩:=K.a x h
  have hn:=K.n
  have hh:zb4 L 3 x 0 0 2 3=(((zaA x 0 L).1,(zaA x 0 L).2.1),true):=by
   have:decide ((zaA x 0 L).2.1 > 0)=true:=by simp;omega
   simp [zb4,this]
  refine ⟨?_,?_,?_,?_,?_,?_,?_⟩
  ·simp [exL,zbc,zd0,zby,zaW,k2,zdK,ih.good]
  ·simp [exL,zcZ,zb3,zjH,k3,ih.names]
  ·simp [exL,r3E,zd1,hh,ih.shape]
  ·simp only [exL,r3E,zd1,zqr,ziM,hh,ih.ins]
   rw [zlf _ _ _ _ _ k5 (by rw [zph k4];exact k6) hn]
   rfl
  ·simp only [exL,nmE,zj0];exact ⟨by omega,ih.nm,trivial⟩
  ·simp only [exL,r3E,zd1,nmE,zj0];exact ⟨by omega,ih.nm2,trivial⟩
  ·have:=ih.dep
   simp only [exL,ze8,zdb,mx,zc3];split<;>omega
 |un d op e h _ ih=>
  have h3:(op==2)=false∧(op==3)=false:=by constructor<;>(simp;omega)
  have har:zdK op=1:=by unfold zdK;repeat' split<;>omega
  have hh:zb4 L op [] 0 0 2 3=((0,0),true):=by simp [zb4,h3]
  refine ⟨?_,?_,?_,?_,?_,?_,?_⟩
  ·simp [exL,zbc,zd0,har,zby,zaW,h3,ih.good]
  ·simp [exL,zcZ,zb3,h3,ih.names]
  ·simp [exL,r3E,zd1,hh,ih.shape]
  ·simp [exL,r3E,zd1,zqr,ziM,ztw,h3,ih.ins]
  ·simp [exL,nmE,zj0,ih.nm]
  ·simp [exL,r3E,zd1,nmE,zj0,ih.nm2]
  ·have:=ih.dep
   simp only [exL,ze8,zdb,mx,zc3];split<;>omega
 |bin d op e f h _ _ ih1 ih2=>
  have h3:(op==2)=false∧(op==3)=false:=by constructor<;>(simp;omega)
  have har:zdK op=2:=by unfold zdK;repeat' split<;>omega
  have hh:zb4 L op [] 0 0 2 3=((0,0),true):=by simp [zb4,h3]
  refine ⟨?_,?_,?_,?_,?_,?_,?_⟩
  ·simp [exL,zbc,zd0,har,zby,zaW,h3,ih1.good,ih2.good]
  ·simp [exL,zcZ,zb3,h3,ih1.names,ih2.names]
  ·simp [exL,r3E,zd1,hh,ih1.shape,ih2.shape]
  ·simp [exL,r3E,zd1,zqr,ziM,ztw,h3,ih1.ins,ih2.ins]
  ·simp [exL,nmE,zj0,ih1.nm,ih2.nm]
  ·simp [exL,r3E,zd1,nmE,zj0,ih1.nm2,ih2.nm2]
  ·have:=ih1.dep
   have:=ih2.dep
   simp only [exL,ze8,zdb,mx,zc3];repeat' split<;>omega
structure GS (L:List VarD) (n:Int) (d:Nat) (s:Sm):Prop where
 good:zct s=true
 decl:zhe L s=true
 shape:(r3S L s).2=true
 wit:zwq n (r3S L s).1=true
 nm:nmS s
 nm2:nmS (r3S L s).1
 dep:zjD s≤d+5
structure GSs (L:List VarD) (n:Int) (d:Nat) (l:List Sm):Prop where
 good:zan l=true
 decl:zdv L l=true
 shape:(zcg L l).2=true
 wit:zji n (zcg L l).1=true
 nm:znM l
 nm2:znM (zcg L l).1
 dep:za8 0 l≤d+5
theorem ziN:∀ (l:List Sm) (d b:Int),d≤b→(∀ s,s ∈ l→zjD s≤b)→za8 d l≤b
 |[],d,b,h,_=>h
 |s::r,d,b,h,hs=>ziN r _ b (by have:=hs s (by simp);unfold mx zc3;split<;>omega) (fun s hm=>hs s (by simp [hm]))
theorem GSs.of (L:List VarD) (n:Int) (d:Nat):∀ l:List Sm,(∀ s,s ∈ l→GS L n d s)→GSs L n d l
 |[],_=>⟨rfl,rfl,rfl,rfl,trivial,trivial,by simp [za8];omega⟩
 |s::r,h=>by
  have h1:=h s (by simp)
  have h2:=GSs.of L n d r (fun s hs=>h s (by simp [hs]))
  exact ⟨by simp [zan,h1.good,h2.good],by simp [zdv,h1.decl,h2.decl],by simp [zcg,h1.shape,h2.shape],by simp [zcg,zji,h1.wit,h2.wit],⟨h1.nm,h2.nm⟩,⟨h1.nm2,h2.nm2⟩,ziN _ _ _ (by omega) (fun s hs=>(h s hs).dep)⟩
theorem zhA:ze8 ex0=1:=rfl
theorem zyL (L:List VarD):r3E L ex0=(ex0,true):=by simp [ex0,r3E,zd1,zb4]
theorem zy7 {p v b e c:Int} (h1:p≤c - 1) (h2:v≤c - 1) (h3:b≤c - 1) (h4:e≤c - 1):1+mx (mx (mx p v) b) e≤c:=by
 have hm:∀ x y:Int,x≤c - 1→y≤c - 1→mx x y≤c - 1:=fun x y hx hy=>by unfold mx zc3;split<;>omega
 have:=hm _ _ (hm _ _ (hm p v h1 h2) h3) h4
 omega
theorem WfS.gs {S A:NmP} {L:List VarD} {n:Int} (K:Kn S A L n) {d:Nat} {s:Sm} (h:WfS S A d s):GS L n d s:=by
 have hn:=K.n
 induction h with
 |assign d x v h hv=>
  obtain ⟨k1,k2,k3,k4,k5⟩:=K.s x h
  have gv:=hv.ge K
  have hh:zb4 L 1 x 0 0 1 2=(((zaA x 0 L).1,0),true):=by simp [zb4,k3]
  refine ⟨?_,?_,?_,?_,?_,?_,?_⟩
  ·simp [smL,zct,zeo,zaW,k2,gv.good,zan,zen,ex0,Ex.op,Ex.value,Ex.name,Ex.slot,Ex.size,Ex.args]
  ·simp [smL,zhe,zdv,zjH,k3,gv.names,ex0,zcZ,zb3]
  ·simp [smL,r3S,zcg,hh,gv.shape,zyL]
  ·simp only [smL,r3S,zcg,zwq,zji,hh,gv.ins]
   rw [zlf _ _ _ _ _ k4 (by simpa [zc3] using k5) hn]
   simp [ex0,r3E,zd1,zb4,zqr,ziM,ztw]
  ·simp only [smL,nmS,znM,ex0,nmE,zj0];exact ⟨by omega,⟨by simp,trivial⟩,gv.nm,trivial,trivial⟩
  ·simp only [smL,r3S,zcg,nmS,znM,ex0,r3E,zd1,nmE,zj0];exact ⟨by omega,⟨by simp,trivial⟩,gv.nm2,trivial,trivial⟩
  ·have:=gv.dep
   simp only [smL,zjD,za8,zhA];exact zy7 (by omega) (by omega) (by omega) (by omega)
 |store d x p v h hp hv=>
  obtain ⟨k1,k2,k3,k4,k5,k6⟩:=K.a x h
  have gv:=hv.ge K
  have gp:=hp.ge K
  have hh:zb4 L 2 x 0 0 1 2=(((zaA x 0 L).1,(zaA x 0 L).2.1),true):=by
   have:decide ((zaA x 0 L).2.1 > 0)=true:=by simp;omega
   simp [zb4,this]
  refine ⟨?_,?_,?_,?_,?_,?_,?_⟩
  ·simp [smL,zct,zeo,zaW,k2,gv.good,gp.good,zan]
  ·simp [smL,zhe,zdv,zjH,k3,gv.names,gp.names]
  ·simp [smL,r3S,zcg,hh,gv.shape,gp.shape]
  ·simp only [smL,r3S,zcg,zwq,zji,hh,gv.ins,gp.ins]
   rw [zlf _ _ _ _ _ k5 (by rw [zph k4];exact k6) hn]
   rfl
  ·simp only [smL,nmS,znM];exact ⟨by omega,gp.nm,gv.nm,trivial,trivial⟩
  ·simp only [smL,r3S,zcg,nmS,znM];exact ⟨by omega,gp.nm2,gv.nm2,trivial,trivial⟩
  ·have:=gv.dep
   have:=gp.dep
   simp only [smL,zjD,za8];exact zy7 (by omega) (by omega) (by omega) (by omega)
 |send d p v hp hv=>
  have gv:=hv.ge K
  have gp:=hp.ge K
  refine ⟨?_,?_,?_,?_,?_,?_,?_⟩
  ·simp [smL,zct,zeo,zaW,gv.good,gp.good,zan]
  ·simp [smL,zhe,zdv,gv.names,gp.names]
  ·simp [smL,r3S,zcg,zb4,gv.shape,gp.shape]
  ·simp [smL,r3S,zcg,zwq,zji,zb4,gv.ins,gp.ins,ztw]
  ·simp only [smL,nmS,znM];exact ⟨by simp,gp.nm,gv.nm,trivial,trivial⟩
  ·simp only [smL,r3S,zcg,nmS,znM];exact ⟨by simp,gp.nm2,gv.nm2,trivial,trivial⟩
  ·have:=gv.dep
   have:=gp.dep
   simp only [smL,zjD,za8];exact zy7 (by omega) (by omega) (by omega) (by omega)
 |out d v hv=>
  have gv:=hv.ge K
  refine ⟨?_,?_,?_,?_,?_,?_,?_⟩
  ·simp [smL,zct,zeo,zaW,gv.good,zan,zen,ex0,Ex.op,Ex.value,Ex.name,Ex.slot,Ex.size,Ex.args]
  ·simp [smL,zhe,zdv,gv.names,ex0,zcZ,zb3]
  ·simp [smL,r3S,zcg,zb4,gv.shape,ex0,r3E,zd1]
  ·simp [smL,r3S,zcg,zwq,zji,zb4,gv.ins,ztw,ex0,r3E,zd1,zqr,ziM]
  ·simp only [smL,nmS,znM,ex0,nmE,zj0];exact ⟨by simp,⟨by simp,trivial⟩,gv.nm,trivial,trivial⟩
  ·simp only [smL,r3S,zcg,nmS,znM,ex0,r3E,zd1,nmE,zj0];exact ⟨by simp,⟨by simp,trivial⟩,gv.nm2,trivial,trivial⟩
  ·have:=gv.dep
   simp only [smL,zjD,za8,zhA];exact zy7 (by omega) (by omega) (by omega) (by omega)
 |ite d v b e hv _ _ ihb ihe=>
  have gv:=hv.ge K
  have gb:=GSs.of L n d b ihb
  have ge:=GSs.of L n d e ihe
  refine ⟨?_,?_,?_,?_,?_,?_,?_⟩
  ·simp [smL,zct,zeo,zaW,gv.good,gb.good,ge.good,zen,ex0,Ex.op,Ex.value,Ex.name,Ex.slot,Ex.size,Ex.args]
  ·simp [smL,zhe,gb.decl,ge.decl,gv.names,ex0,zcZ,zb3]
  ·simp [smL,r3S,zb4,gv.shape,gb.shape,ge.shape,ex0,r3E,zd1]
  ·simp [smL,r3S,zwq,zb4,gv.ins,gb.wit,ge.wit,ztw,ex0,r3E,zd1,zqr,ziM]
  ·simp only [smL,nmS,ex0,nmE,zj0];exact ⟨by simp,⟨by simp,trivial⟩,gv.nm,gb.nm,ge.nm⟩
  ·simp only [smL,r3S,nmS,ex0,r3E,zd1,nmE,zj0];exact ⟨by simp,⟨by simp,trivial⟩,gv.nm2,gb.nm2,ge.nm2⟩
  ·have:=gv.dep
   have:=gb.dep
   have:=ge.dep
   simp only [smL,zjD,zhA];exact zy7 (by omega) (by omega) (by omega) (by omega)
 |whl d v b hv _ ihb=>
  have gv:=hv.ge K
  have gb:=GSs.of L n d b ihb
  refine ⟨?_,?_,?_,?_,?_,?_,?_⟩
  ·simp [smL,zct,zeo,zaW,gv.good,gb.good,zan,zen,ex0,Ex.op,Ex.value,Ex.name,Ex.slot,Ex.size,Ex.args]
  ·simp [smL,zhe,zdv,gb.decl,gv.names,ex0,zcZ,zb3]
  ·simp [smL,r3S,zcg,zb4,gv.shape,gb.shape,ex0,r3E,zd1]
  ·simp [smL,r3S,zcg,zwq,zji,zb4,gv.ins,gb.wit,ztw,ex0,r3E,zd1,zqr,ziM]
  ·simp only [smL,nmS,znM,ex0,nmE,zj0];exact ⟨by simp,⟨by simp,trivial⟩,gv.nm,gb.nm,trivial⟩
  ·simp only [smL,r3S,zcg,nmS,znM,ex0,r3E,zd1,nmE,zj0];exact ⟨by simp,⟨by simp,trivial⟩,gv.nm2,gb.nm2,trivial⟩
  ·have:=gv.dep
   have:=gb.dep
   simp only [smL,zjD,za8,zhA];exact zy7 (by omega) (by omega) (by omega) (by omega)
theorem resolves (p:PgD) (n:Int) (d:Nat) (hd:d≤10) (h1:GSs p.vars n d p.start) (h2:GSs p.vars n d p.message) (h3:GSs p.vars n d p.tick) (h4:GSs p.vars n d p.input) (hv:p.vars.any (fun v=>!zcB v)=false)
  (hl:p.vars.length≤16) (hdup:zqv p.vars=false) (hs:∃ m,znj 0 p.vars=some m) :
  zdw p=(⟨zgI p.vars,(zcg p.vars p.start).1,(zcg p.vars p.message).1,(zcg p.vars p.tick).1,(zcg p.vars p.input).1⟩,0):=by
 have hck:zbF zan p=0:=by
  unfold zbF
  have a1:=h1.dep
  have a2:=h2.dep
  have a3:=h3.dep
  have a4:=h4.dep
  have:¬ znc p > 16:=by
   have hm:∀ x y:Int,x≤16→y≤16→mx x y≤16:=fun x y hx hy=>by unfold mx zc3;split<;>omega
   have:=hm _ _ (hm _ _ (hm (za8 0 p.start) (za8 0 p.message) (by omega) (by omega)) (show za8 0 p.tick≤16 by omega)) (show za8 0 p.input≤16 by omega)
   unfold znc;omega
  rw [if_neg this,hv,h1.good,h2.good,h3.good,h4.good]
  simp
 obtain ⟨m,hm⟩:=hs
 unfold zdw
 rw [hck,hdup,hm,h1.decl,h2.decl,h3.decl,h4.decl,h1.shape,h2.shape,h3.shape,h4.shape]
 simp
 omega
def nx5 (v:Int) (k:Nat):Int:=[0,1,2+v,3+v,4+v,6+v].getD k 0
structure VF (L:List VarD) (I:List Int) (x:VarD) (a b n:Int):Prop where
 look:zaA x.name 0 L=(a,x.size,true)
 pos:0≤a
 next:a+zc3 x.size 1=b
 le:b≤n
 size:0≤x.size
 init:x.size=0→I.getD a.toNat 0=x.init
 zero:∀ i:Nat,(i:Int)<x.size→I.getD (a+i).toNat 0=0
theorem ztc (u v w:Int) (hv:0≤v∧v<5) (k:Nat) (hk:k<5):VF (zcJ u v w) (zgI (zcJ u v w)) ((zcJ u v w).getD k ⟨[],0,0⟩) (nx5 v k) (nx5 v (k+1)) (6+v):=by
 have h5:v=0∨v=1∨v=2∨v=3∨v=4:=by omega
 have k5:k=0∨k=1∨k=2∨k=3∨k=4:=by omega
 rcases h5 with rfl|rfl|rfl|rfl|rfl<;>rcases k5 with rfl|rfl|rfl|rfl|rfl <;>
  refine ⟨by simp [zcJ,zaA,nx5,mx,zc3],by simp [nx5],by simp [zcJ,nx5,zc3],by simp [nx5],by simp [zcJ],fun h=>?_,fun i hi=>?_⟩
 all_goals first
  |(simp [zcJ] at hi;omega)
  |(simp [zcJ] at h;done)
  |(simp [zcJ,zgI,zwc,nx5];done)
  |(simp only [zcJ,List.getD_cons_succ,List.getD_cons_zero] at hi;have h5:i=0∨i=1∨i=2∨i=3∨i=4:=(by omega);rcases h5 with rfl|rfl|rfl|rfl|rfl<;>first|(simp [zcJ,zgI,zwc,nx5,List.replicate];done)|omega)
theorem zyM (u v w:Int) (hv:0≤v∧v<5):Kn S0 A0 (zcJ u v w) (6+v):=by
 have f:=ztc u v w hv
 have f0:=f 0 (by omega)
 have f1:=f 1 (by omega)
 have f2:=f 2 (by omega)
 have f3:=f 3 (by omega)
 have f4:=f 4 (by omega)
 have l0:zaA [120] 0 (zcJ u v w)=(0,0,true):=f0.look
 have l1:zaA [97] 0 (zcJ u v w)=(1,1+v,true):=f1.look
 have l2:zaA [121] 0 (zcJ u v w)=(2+v,0,true):=f2.look
 have l3:zaA [122] 0 (zcJ u v w)=(3+v,0,true):=f3.look
 have l4:zaA [98] 0 (zcJ u v w)=(4+v,2,true):=f4.look
 refine ⟨?_,?_,by omega⟩
 ·rintro x (rfl|rfl|rfl)
  ·rw [l0];exact ⟨by decide,by decide,rfl,by simp,by simp;omega⟩
  ·rw [l2];exact ⟨by decide,by decide,rfl,by simp;omega,by simp;omega⟩
  ·rw [l3];exact ⟨by decide,by decide,rfl,by simp;omega,by simp;omega⟩
 ·rintro x (rfl|rfl)
  ·rw [l1];exact ⟨by decide,by decide,rfl,by simp;omega,by simp,by simp;omega⟩
  ·rw [l4];exact ⟨by decide,by decide,rfl,by simp,by simp;omega,by simp;omega⟩
theorem zmE (u v w:Int) (hu:0≤u∧u<7) (hv:0≤v∧v<5) (hw:0≤w∧w<3):(zcJ u v w).any (fun v=>!zcB v)=false:=by
 have a1:zbb [120]=true:=by decide
 have a2:zbb [97]=true:=by decide
 have a3:zbb [121]=true:=by decide
 have a4:zbb [122]=true:=by decide
 have a5:zbb [98]=true:=by decide
 have b1:¬ (1+v<0):=by omega
 have b2:¬ (1+v=0):=by omega
 simp [zcJ,zcB,a1,a2,a3,a4,a5,b1]
 omega
theorem zvP (u v w:Int):zqv (zcJ u v w)=false:=by simp [zcJ,zqv]
theorem zvQ (u v w:Int) (hv:0≤v∧v<5):∃ m,znj 0 (zcJ u v w)=some m:=by
 have h5:v=0∨v=1∨v=2∨v=3∨v=4:=by omega
 rcases h5 with rfl|rfl|rfl|rfl|rfl<;>exact ⟨_,rfl⟩
structure PF (p:PgD) (u v w:Int):Prop where
 hu:0≤u∧u<7
 hv:0≤v∧v<5
 hw:0≤w∧w<3
 vars:p.vars=zcJ u v w
 s1:∀ s,s ∈ p.start→WfS S0 A0 3 s
 s2:∀ s,s ∈ p.message→WfS S0 A0 3 s
 s3:∀ s,s ∈ p.tick→WfS S0 A0 3 s
 s4:∀ s,s ∈ p.input→WfS S0 A0 3 s
theorem WfS.up {S A:NmP} {d:Nat} {s:Sm} (h:WfS S A d s):WfS S A (d+1) s:=by
 induction h with
 |assign d n v h hv=>exact .assign _ n v h hv
 |store d n p v h hp hv=>exact .store _ n p v h hp hv
 |send d p v hp hv=>exact .send _ p v hp hv
 |out d v hv=>exact .out _ v hv
 |ite d v b e hv _ _ ih1 ih2=>exact .ite _ v b e hv ih1 ih2
 |whl d v b hv _ ih=>exact .whl _ v b hv ih
theorem ziO (xs:List UInt8) (a:Nat):∃ u v w,PF (zaS xs a).1 u v w:=
 ⟨_,_,_,zaG _ _ 7 (by omega),zaG _ _ 5 (by omega),zaG _ _ 3 (by omega),rfl,fun s hs=>(zd8 xs 2 3 _ s hs).up,fun s hs=>zd8 xs 3 4 _ s hs,fun s hs=>(zd8 xs 2 3 _ s hs).up,fun s hs=>(zd8 xs 2 2 _ s hs).up⟩
theorem PF.gs {p:PgD} {u v w:Int} (h:PF p u v w):GSs p.vars (6+v) 3 p.start∧GSs p.vars (6+v) 3 p.message∧GSs p.vars (6+v) 3 p.tick∧GSs p.vars (6+v) 3 p.input:=by
 have K:=zyM u v w h.hv
 rw [h.vars]
 exact ⟨GSs.of _ _ _ _ fun s hs=>(h.s1 s hs).gs K,GSs.of _ _ _ _ fun s hs=>(h.s2 s hs).gs K,GSs.of _ _ _ _ fun s hs=>(h.s3 s hs).gs K,GSs.of _ _ _ _ fun s hs=>(h.s4 s hs).gs K⟩
theorem PF.resolves {p:PgD} {u v w:Int} (h:PF p u v w):zdw p=(⟨zgI p.vars,(zcg p.vars p.start).1,(zcg p.vars p.message).1,(zcg p.vars p.tick).1,(zcg p.vars p.input).1⟩,0):=by
 obtain ⟨g1,g2,g3,g4⟩:=h.gs
 refine Go.Abs.resolves p (6+v) 3 (by omega) g1 g2 g3 g4 ?_ ?_ ?_ ?_
 ·rw [h.vars];exact zmE u v w h.hu h.hv h.hw
 ·rw [h.vars];simp [zcJ]
 ·rw [h.vars];exact zvP u v w
 ·rw [h.vars];exact zvQ u v w h.hv
theorem zyN {p:PgD} {b:Int} (h1:za8 0 p.start≤b) (h2:za8 0 p.message≤b) (h3:za8 0 p.tick≤b) (h4:za8 0 p.input≤b):znc p≤b:=by
 have hm:∀ x y:Int,x≤b→y≤b→mx x y≤b:=fun x y hx hy=>by unfold mx zc3;split<;>omega
 unfold znc
 exact hm _ _ (hm _ _ (hm _ _ h1 h2) h3) h4
theorem zvR {p:PgD} (h1:za8 0 p.start≤16) (h2:za8 0 p.message≤16) (h3:za8 0 p.tick≤16) (h4:za8 0 p.input≤16) (hv:p.vars.any (fun v=>!zcB v)=false)
  (g1:zan p.start=true) (g2:zan p.message=true) (g3:zan p.tick=true) (g4:zan p.input=true):zbF zan p=0:=by
 unfold zbF
 have:=zyN h1 h2 h3 h4
 rw [if_neg (by omega),hv,g1,g2,g3,g4]
 simp
theorem zft (xs:List UInt8) (a:Nat):zbF zan (zaS xs a).1=0:=by
 obtain ⟨u,v,w,h⟩:=ziO xs a
 obtain ⟨g1,g2,g3,g4⟩:=h.gs
 have a1:=g1.dep
 have a2:=g2.dep
 have a3:=g3.dep
 have a4:=g4.dep
 exact zvR (by omega) (by omega) (by omega) (by omega) (by rw [h.vars];exact zmE u v w h.hu h.hv h.hw) g1.good g2.good g3.good g4.good
def gdC (c:UInt8):Bool:=c != 101&&c != 110&&c != 100
def lnF:Nat→List UInt8→Option Nat
 |k,[]=>some k
 |k,c::r=>if c=10 then (if k=2 then lnF 0 r else none) else lnF (if gdC c=true∨k=2 then 2 else 1) r
theorem zlg {k:Nat} {c:UInt8} {r:List UInt8} (h:(gdC c&&c != 10)=true):lnF k (c::r)=lnF 2 r:=by
 simp only [Bool.and_eq_true,bne_iff_ne,ne_eq] at h
 rw [lnF,if_neg h.2,if_pos (.inl h.1)]
theorem zBZ (r:List UInt8):lnF 2 (10::r)=lnF 0 r:=by rw [lnF,if_pos rfl,if_pos rfl]
theorem zmF:∀ (x r:List UInt8) (k:Nat),(10:UInt8) ∉ x→∃ k',lnF k (x++r)=lnF k' r
 |[],r,k,_=>⟨k,rfl⟩
 |c::x,r,k,h=>by
  simp only [List.mem_cons,not_or] at h
  obtain ⟨k',e⟩:=zmF x r (if gdC c=true∨k=2 then 2 else 1) h.2
  exact ⟨k',by rw [List.cons_append,lnF,if_neg (fun e=>h.1 e.symm),e]⟩
def Ln (t:List UInt8):Prop:=∀ (k:Nat) (u:List UInt8),lnF k (t++u)=lnF 0 u
theorem znO {c:UInt8} {k:Nat} {u:List UInt8} (h:(gdC c&&c != 10)=true):lnF k (c::10::u)=lnF 0 u:=by rw [zlg h,zBZ]
theorem zgo {s:List UInt8} (h:zbb s=true):(10:UInt8) ∉ s:=by
 unfold zbb at h
 simp only [Bool.and_eq_true,zsa] at h
 intro hm
 have:=List.all_eq_true.1 h.2.1 10 hm
 revert this
 decide
theorem zB0 (v:Int) (h0:0≤v) (h1:v≤9223372036854775807):(10:UInt8) ∉ zdM v:=by
 have:=zdh v (by omega) h1 10 (.inr rfl)
 unfold itT at this
 rwa [if_neg (by omega)] at this
theorem zB1 (op:Nat):(10:UInt8) ∉ sgF op:=by
 have key:∀ (c:Prop) [Decidable c] (a b:List UInt8),(10:UInt8) ∉ a→(10:UInt8) ∉ b→(10:UInt8) ∉ (if c then a else b):=fun c _ a b ha hb=>by split<;>assumption
 unfold sgF
 repeat (refine key _ _ _ (by decide) ?_)
 decide
theorem ztd {b:Bool} {x:List UInt8} (h:(10:UInt8) ∉ x):(10:UInt8) ∉ zg0 (b,x):=by
 unfold zg0
 cases b
 ·exact h
 ·simp [h]
theorem zgp {e:Ex} (h:GdE e):(10:UInt8) ∉ fmE e:=by
 induction h with
 |num v h0 h1=>rw [zFw];exact zB0 v h0 h1
 |name nm hn=>rw [zFx];exact zgo hn
 |index nm e hn _ ih=>rw [zE5];have:=zgo hn;simp [this,ih]
 |word op h1 h2=>
  rw [(zE6 op h1 h2).1]
  unfold kwF
  repeat' split
  all_goals decide
 |un op e ho _ ih=>rw [zFy op e ho];have:=zB1 op.toNat;have:=ztd (b:=decide (e.op≥8)) ih;simp_all
 |bin op a b h1 h2 _ _ iha ihb=>
  rw [zFz op a b h1]
  have:=zB1 op.toNat
  have:=ztd (b:=decide (a.op≥8)) iha
  have:=ztd (b:=decide (b.op≥8)) ihb
  simp_all
theorem zmG (n:Nat):(10:UInt8) ∉ zdf n:=by simp [zdf]
theorem Ln.pass {x r u:List UInt8} {k:Nat} (hx:(10:UInt8) ∉ x) (h:∀ k,lnF k r=lnF 0 u):lnF k (x++r)=lnF 0 u:=by
 obtain ⟨k',e⟩:=zmF x r k hx
 rw [e,h]
theorem zj1:∀ (b:List Sm) (n:Nat),(∀ s ∈ b,∀ n,Ln (stT n s))→∀ u,lnF 0 (lsT n b++u)=lnF 0 u
 |[],n,_,u=>by simp [lsT]
 |s::r,n,h,u=>by
  rw [lsT,List.append_assoc,List.append_assoc]
  refine Ln.pass (zmG n) fun k=>?_
  rw [h s (by simp) n,zj1 r n (fun x hx=>h x (by simp [hx])) u]
theorem zfO (k:Nat) (u:List UInt8):lnF k (59::10::u)=lnF 0 u:=znO (by decide)
theorem zte (k:Nat) (u:List UInt8):lnF k (32::123::10::u)=lnF 0 u:=by rw [zlg (by decide),znO (by decide)]
theorem zvS (k:Nat) (u:List UInt8):lnF k (125::10::u)=lnF 0 u:=znO (by decide)
theorem zFa (k:Nat) (u:List UInt8):lnF k ([125,32,101,108,115,101,32,123,10]++u)=lnF 0 u:=by
 simp only [List.cons_append,List.nil_append]
 rw [zlg (by decide)]
 exact Ln.pass (x:=[32,101,108,115,101]) (by decide) fun k=>zte k u
theorem zB2 {s:Sm} (hs:GdS s):∀ n,Ln (stT n s):=by
 induction hs with
 |assign nm v hn hv=>
  intro n k u
  have e:stT n (smE 1 nm exZ v [] [])++u=nm++([32,61,32]++(fmE v++(59::10::u))):=by simp [smE,stT,fmS]
  rw [e]
  exact Ln.pass (zgo hn) fun k=>Ln.pass (by decide) fun k=>Ln.pass (zgp hv) fun k=>zfO k u
 |store nm p v hn hp hv=>
  intro n k u
  have e:stT n (smE 2 nm p v [] [])++u=nm++([91]++(fmE p++([93,32,61,32]++(fmE v++(59::10::u))))):=by simp [smE,stT,fmS]
  rw [e]
  exact Ln.pass (zgo hn) fun k=>Ln.pass (by decide) fun k=>Ln.pass (zgp hp) fun k=>Ln.pass (by decide) fun k=>Ln.pass (zgp hv) fun k=>zfO k u
 |put p v hp hv=>
  intro n k u
  have e:stT n (smE 5 [] p v [] [])++u=[115,101,110,100,32]++(fmE p++([44,32]++(fmE v++(59::10::u)))):=by simp [smE,stT,fmS]
  rw [e]
  exact Ln.pass (by decide) fun k=>Ln.pass (zgp hp) fun k=>Ln.pass (by decide) fun k=>Ln.pass (zgp hv) fun k=>zfO k u
 |out v hv=>
  intro n k u
  have e:stT n (smE 6 [] exZ v [] [])++u=[111,117,116,112,117,116,32]++(fmE v++(59::10::u)):=by simp [smE,stT,fmS]
  rw [e]
  exact Ln.pass (by decide) fun k=>Ln.pass (zgp hv) fun k=>zfO k u
 |ife v b c hv hb hc ihb ihc=>
  intro n k u
  by_cases he:c.length > 0
  ·have e:stT n (smE 3 [] exZ v b c)++u=[105,102,32]++(fmE v++(32::123::10::(lsT (n+1) b++(zdf n++([125,32,101,108,115,101,32,123,10]++(lsT (n+1) c++(zdf n++(125::10::u)))))))):=by simp [smE,stT,fmS,he]
   rw [e]
   refine Ln.pass (by decide) fun k=>Ln.pass (zgp hv) fun k=>?_
   rw [zte,zj1 b (n+1) ihb]
   refine Ln.pass (zmG n) fun k=>?_
   rw [zFa,zj1 c (n+1) ihc]
   exact Ln.pass (zmG n) fun k=>zvS k u
  ·have hc0:c=[]:=List.length_eq_zero_iff.1 (by omega)
   subst hc0
   have e:stT n (smE 3 [] exZ v b [])++u=[105,102,32]++(fmE v++(32::123::10::(lsT (n+1) b++(zdf n++(125::10::u))))):=by simp [smE,stT,fmS]
   rw [e]
   refine Ln.pass (by decide) fun k=>Ln.pass (zgp hv) fun k=>?_
   rw [zte,zj1 b (n+1) ihb]
   exact Ln.pass (zmG n) fun k=>zvS k u
 |loop v b hv hb ihb=>
  intro n k u
  have e:stT n (smE 4 [] exZ v b [])++u=[119,104,105,108,101,32]++(fmE v++(32::123::10::(lsT (n+1) b++(zdf n++(125::10::u))))):=by simp [smE,stT,fmS]
  rw [e]
  refine Ln.pass (by decide) fun k=>Ln.pass (zgp hv) fun k=>?_
  rw [zte,zj1 b (n+1) ihb]
  exact Ln.pass (zmG n) fun k=>zvS k u
theorem zpi {nm:List UInt8} (hn:(10:UInt8) ∉ nm) {l:List Sm} (h:∀ s ∈ l,GdS s) (u:List UInt8):lnF 0 (hdT nm l++u)=lnF 0 u:=by
 unfold hdT
 split
 ·simp
 ·have e:[111,110,32]++nm++[32,123,10]++lsT 1 l++[125,10]++u=[111,110,32]++(nm++(32::123::10::(lsT 1 l++(125::10::u)))):=by simp
  rw [e]
  refine Ln.pass (by decide) fun k=>Ln.pass hn fun k=>?_
  rw [zte,zj1 l 1 (fun s hs=>zB2 (h s hs)),zvS]
theorem zB3 {n:Int} (h0:-9223372036854775808≤n) (h1:n≤9223372036854775807):(10:UInt8) ∉ itT n:=zdh n h0 h1 10 (.inr rfl)
theorem zB4 {v:VarD} (h:GV v) (u:List UInt8):lnF 0 (vaT v++u)=lnF 0 u:=by
 have hn:=zgo h.name
 unfold vaT
 split
 ·have e:[97,114,114,97,121,32]++v.name++[91]++itT v.size++[93,59,10]++u=[97,114,114,97,121,32]++(v.name++([91]++(itT v.size++([93]++(59::10::u))))):=by simp
  rw [e]
  exact Ln.pass (by decide) fun k=>Ln.pass hn fun k=>Ln.pass (by decide) fun k=>Ln.pass (zB3 (by have:=h.size;omega) h.size.2) fun k=>Ln.pass (by decide) fun k=>zfO k u
 ·split
  ·have e:[118,97,114,32]++v.name++[32,61,32]++itT v.init++[59,10]++u=[118,97,114,32]++(v.name++([32,61,32]++(itT v.init++(59::10::u)))):=by simp
   rw [e]
   exact Ln.pass (by decide) fun k=>Ln.pass hn fun k=>Ln.pass (by decide) fun k=>Ln.pass (zB3 (by have:=h.init;omega) h.init.2) fun k=>zfO k u
  ·have e:[118,97,114,32]++v.name++[59,10]++u=[118,97,114,32]++(v.name++(59::10::u)):=by simp
   rw [e]
   exact Ln.pass (by decide) fun k=>Ln.pass hn fun k=>zfO k u
theorem zwr:∀ (vs:List VarD),(∀ v ∈ vs,GV v)→∀ u,lnF 0 (vsT vs++u)=lnF 0 u
 |[],_,u=>by simp [vsT]
 |v::r,h,u=>by
  have e:vsT (v::r)++u=vaT v++(vsT r++u):=by simp [vsT]
  rw [e,zB4 (h v (by simp)),zwr r (fun x hx=>h x (by simp [hx]))]
theorem zB5 {p:PgD} (h:GP p):lnF 0 (pgT p)=some 0:=by
 have e:pgT p=vsT p.vars++(hdT [115,116,97,114,116] p.start++(hdT [109,101,115,115,97,103,101] p.message++(hdT [116,105,99,107] p.tick++(hdT [105,110,112,117,116] p.input++[])))):=by simp [pgT]
 rw [e,zwr _ h.vars,zpi (by decide) h.start,zpi (by decide) h.message,zpi (by decide) h.tick,zpi (by decide) h.input]
 rfl
theorem zlh:∀ (t x:List UInt8) (k:Nat),(10:UInt8) ∉ x→(k=0→x=[])→(k=2→∃ c ∈ x,gdC c=true)→lnF k t=some 0 →
  ∃ L,(∀ u,zaf 10 (x++t++u)=L++zaf 10 u)∧(∀ w ∈ L,w≠[101,110,100])∧(L.flatMap fun w=>w++[10])=x++t
 |[],x,k,hx,h0,_,h=>by
  rw [lnF] at h
  have:=h0 (Option.some.inj h)
  subst this
  exact ⟨[],fun u=>by simp,by simp,by simp⟩
 |c::t,x,k,hx,h0,h2,h=>by
  by_cases hc:c=10
  ·subst hc
   rw [lnF,if_pos rfl] at h
   split at h
   ·rename_i hk
    obtain ⟨d,hd,hg⟩:=h2 hk
    obtain ⟨L,h3,h4,h5⟩:=zlh t [] 0 (by simp) (fun _=>rfl) (by simp) h
    refine ⟨x::L,fun u=>?_,?_,?_⟩
    ·have:=h3 u
     simp only [List.nil_append] at this
     rw [List.append_assoc,List.cons_append,zb7 10 _ x hx,this]
     rfl
    ·intro w hw
     rcases List.mem_cons.1 hw with rfl|hw
     ·rintro rfl
      revert hg
      revert d
      decide
     ·exact h4 w hw
    ·rw [List.flatMap_cons,h5]
     simp
   ·cases h
  ·rw [lnF,if_neg hc] at h
   have e:∀ u,x++c::t++u=(x++[c])++t++u:=fun u=>by simp
   obtain ⟨L,h3,h4,h5⟩:=zlh t (x++[c]) _ (by simp only [List.mem_append,List.mem_singleton,not_or];exact ⟨hx,fun e=>hc e.symm⟩)
    (by split<;>intro hh<;>cases hh) (by
     split
     ·rename_i hh
      intro _
      rcases hh with hh|hh
      ·exact ⟨c,by simp,hh⟩
      ·obtain ⟨d,hd,hg⟩:=h2 hh
       exact ⟨d,by simp [hd],hg⟩
     ·intro hh;cases hh) h
   exact ⟨L,fun u=>by rw [e];exact h3 u,h4,by rw [h5];simp⟩
theorem zj2:∀ (L r:List (List UInt8)) (b:List UInt8),(∀ w ∈ L,w≠[101,110,100])→zbt (L++r) b=zbt r (b++L.flatMap fun w=>w++[10])
 |[],r,b,_=>by simp
 |w::L,r,b,h=>by
  rw [List.cons_append,zbt,if_neg (h w (by simp)),zj2 L r _ (fun x hx=>h x (by simp [hx]))]
  simp
theorem zB6 {line a b c:List UInt8} (hs:zaf 32 line=[a,b,c]):zgi line=if a=[112,114,111,116,111,99,111,108]∧b ∈ zli.tail then ((zli.idxOf b:Int),(zdE c).1,(zdE c).2) else (0,0,false):=by
 unfold zgi;rw [hs]
structure RdP (p:PgD):Prop where
 gp:GP p
 dep:znc p≤16
 fmt:zjc p=(pgT p,0)
 len:(pgT p).length≤4096
 res:(zaR p).2=0
theorem ztf {p:PgD} (h:RdP p):zdF (pgT p)=zaR p:=by
 unfold zdF
 rw [ztb h.gp h.dep h.len,if_neg (by simp)]
theorem zpj (L:List (List UInt8)) (s:List UInt8):(L++zaf 10 s).dropLast=L++(zaf 10 s).dropLast:=
 List.dropLast_append_of_ne_nil (zbi 10 s)
theorem ztg (w:List UInt8) (s:List UInt8):(w::zaf 10 s).dropLast=w::(zaf 10 s).dropLast:=zpj [w] s
theorem zj3 {p:PgD} (h:RdP p):∃ L,(∀ u,zaf 10 (zbA p++u)=[112,114,111,99,101,115,115]::(L++[101,110,100]::zaf 10 u))∧(∀ w ∈ L,w≠[101,110,100])∧(L.flatMap fun w=>w++[10])=pgT p:=by
 obtain ⟨L,h1,h2,h3⟩:=zlh (pgT p) [] 0 (by simp) (fun _=>rfl) (by simp) (zB5 h.gp)
 refine ⟨L,fun u=>?_,h2,h3⟩
 have e:zbA p++u=[112,114,111,99,101,115,115]++10::(pgT p++([101,110,100]++10::u)):=by
  unfold zbA
  rw [h.fmt]
  simp
 have h4:=h1 ([101,110,100]++10::u)
 simp only [List.nil_append] at h4
 rw [e,zb7 10 _ _ (by decide),h4,zb7 10 _ _ (by decide)]
theorem zj4:∀ (ps:List PgD) (cs:List CdD) (a:Int) (f:Nat) (u:List UInt8),(∀ p ∈ ps,RdP p)→cs.length+ps.length≤5→(zaf 10 (ps.flatMap zbA++u)).dropLast.length<f →
  ∃ a' f',(zaf 10 u).dropLast.length<f'∧zbT f (zaf 10 (ps.flatMap zbA++u)).dropLast a cs=zbT f' (zaf 10 u).dropLast a' (cs++ps.map fun p=>(zaR p).1)
 |[],cs,a,f,u,_,_,h=>⟨a,f,by simpa using h,by simp⟩
 |p::r,cs,a,f,u,hp,hl,h=>by
  obtain ⟨L,h1,h2,h3⟩:=zj3 (hp p (by simp))
  have e:(p::r).flatMap zbA++u=zbA p++(r.flatMap zbA++u):=by simp
  rw [e,h1] at h ⊢
  have e2:([112,114,111,99,101,115,115]::(L++[101,110,100]::zaf 10 (r.flatMap zbA++u))).dropLast=[112,114,111,99,101,115,115]::(L++[101,110,100]::(zaf 10 (r.flatMap zbA++u)).dropLast):=by
   have:=zpj ([112,114,111,99,101,115,115]::(L++[[101,110,100]])) (r.flatMap zbA++u)
   simpa using this
  rw [e2] at h ⊢
  obtain ⟨g,rfl⟩:∃ g,f=g+1:=⟨f - 1,by omega⟩
  simp only [List.length_cons,List.length_append] at h hl
  have hb:=ztf (hp p (by simp))
  have hr:=(hp p (by simp)).res
  have hc:zbt (L++[101,110,100]::(zaf 10 (r.flatMap zbA++u)).dropLast) []=some (pgT p,(zaf 10 (r.flatMap zbA++u)).dropLast):=by
   rw [zj2 L _ _ h2,zbt,if_pos rfl,h3]
   rfl
  rw [zbT,if_pos rfl,if_neg (by omega),hc]
  dsimp only
  rw [hb,if_neg (by rw [hr];simp)]
  obtain ⟨a',f',h5,h6⟩:=zj4 r (cs++[(zaR p).1]) (a+1+((L++[101,110,100]::(zaf 10 (r.flatMap zbA++u)).dropLast).length - (zaf 10 (r.flatMap zbA++u)).dropLast.length:Nat)) g u (fun x hx=>hp x (by simp [hx])) (by simp;omega) (by omega)
  exact ⟨a',f',h5,by rw [h6];simp⟩
theorem zyO {x:StD} (h:zso x=true):(10:UInt8) ∉ za6 x:=by
 intro hm
 unfold za6 at hm
 rcases List.mem_append.1 hm with hm|hm
 ·exact zoI _ _ (.inr rfl) hm
 ·obtain ⟨n,hn,hm⟩:=List.mem_flatMap.1 hm
  have:=zoJ x h n hn
  rcases List.mem_cons.1 hm with hm|hm
  ·cases hm
  ·exact zdh n this.1 this.2 10 (.inr rfl) hm
theorem ziP:∀ l:List StD,(∀ x ∈ l,zwl x)→zaf 10 (l.flatMap fun x=>za6 x++[10])=l.map za6++[[]]
 |[],_=>by simp [zaf]
 |x::r,h=>by
  have e:((x::r).flatMap fun x=>za6 x++[10])=za6 x++10::(r.flatMap fun x=>za6 x++[10]):=by simp
  rw [e,zb7 10 _ _ (zyO (h x (by simp)).1),ziP r (fun y hy=>h y (by simp [hy]))]
  rfl
theorem zj5:∀ (l xs:List StD) (a:Int),(∀ x ∈ l,zwl x)→xs.length+l.length≤400→zbG false (l.map za6) a xs=(xs++l,0,0)
 |[],xs,a,_,_=>by simp [zbG]
 |x::r,xs,a,h,hl=>by
  obtain ⟨h1,h2,h3,h4⟩:=h x (by simp)
  simp only [List.length_cons] at hl
  rw [List.map_cons,zbG,zp0 x h3 h4 h1 h2]
  dsimp only
  rw [if_neg (by omega),zj5 r (xs++[x]) (a+1) (fun y hy=>h y (by simp [hy])) (by simp;omega)]
  simp
theorem zB7:∀ k:Nat,1≤k→k≤8→(10:UInt8) ∉ prF k∧(32:UInt8) ∉ prF k:=fun k h1 h2=>zvj (fun k=>(10:UInt8) ∉ prF k∧(32:UInt8) ∉ prF k) (by decide) k h1 h2
theorem znP {ps:List PgD} {k:Nat} {faults:Int} {l:List StD} (hp:∀ p ∈ ps,RdP p) (h0:ps≠[]) (h5:ps.length≤5) (k1:1≤k) (k2:k≤8) (f1:-9223372036854775808≤faults) (f2:faults≤9223372036854775807)
  (hl:∀ x ∈ l,zwl x) (h4:l.length≤400) (hlen:(zcf ps k faults l).length≤65536):zk1 (zcf ps k faults l)=(⟨ps.map fun p=>(zaR p).1,k,faults,l⟩,0,0):=by
 obtain ⟨p1,p2⟩:=zB7 k k1 k2
 have q1:=zdh faults f1 f2 10 (.inr rfl)
 have q2:=zdh faults f1 f2 32 (.inl rfl)
 have e:zcf ps k faults l=([112,114,111,116,111,99,111,108,32]++prF k++[32]++itT faults)++10::(ps.flatMap zbA++([115,116,101,112,115]++10::(l.flatMap fun x=>za6 x++[10]))):=by
  simp [zcf,zg2]
 have hs:zaf 10 (zcf ps k faults l)=([112,114,111,116,111,99,111,108,32]++prF k++[32]++itT faults)::zaf 10 (ps.flatMap zbA++([115,116,101,112,115]++10::(l.flatMap fun x=>za6 x++[10]))):=by
  rw [e]
  refine zb7 10 _ _ ?_
  simp [p1,q1]
 have hs2:zaf 10 ([115,116,101,112,115]++10::(l.flatMap fun x=>za6 x++[10]))=[115,116,101,112,115]::(l.map za6++[[]]):=by
  rw [zb7 10 _ _ (by decide),ziP l hl]
 have hd2:(zaf 10 ([115,116,101,112,115]++10::(l.flatMap fun x=>za6 x++[10]))).dropLast=[115,116,101,112,115]::l.map za6:=by
  rw [hs2]
  have:([115,116,101,112,115]::(l.map za6++[[]]))=(([115,116,101,112,115]::l.map za6)++[[]]):=rfl
  rw [this,List.dropLast_concat]
 obtain ⟨a',f',g1,g2⟩:=zj4 ps [] 2 ((zaf 10 (ps.flatMap zbA++([115,116,101,112,115]++10::(l.flatMap fun x=>za6 x++[10])))).dropLast.length+1) ([115,116,101,112,115]++10::(l.flatMap fun x=>za6 x++[10])) hp (by simpa using h5) (by omega)
 have hlast:zje (zcf ps k faults l)=false:=by
  unfold zje
  have:(zaf 10 (zcf ps k faults l)).getLast (zbi 10 _)=[]:=by
   have hq:zaf 10 (ps.flatMap zbA++([115,116,101,112,115]++10::(l.flatMap fun x=>za6 x++[10])))≠[]:=zbi 10 _
   have hin:∃ K,zaf 10 (zcf ps k faults l)=K++[[]]:=by
    have hk:∀ (ps:List PgD),(∀ p ∈ ps,RdP p)→∀ (u:List UInt8),(∃ K,zaf 10 u=K++[[]])→∃ K,zaf 10 (ps.flatMap zbA++u)=K++[[]]:=by
     intro ps
     induction ps with
     |nil=>intro _ u hu;simpa using hu
     |cons p r ih=>
      intro hp u hu
      obtain ⟨L,h1,_,_⟩:=zj3 (hp p (by simp))
      obtain ⟨K,hK⟩:=ih (fun x hx=>hp x (by simp [hx])) u hu
      refine ⟨[112,114,111,99,101,115,115]::(L++[101,110,100]::K),?_⟩
      have e:(p::r).flatMap zbA++u=zbA p++(r.flatMap zbA++u):=by simp
      rw [e,h1,hK]
      simp
    obtain ⟨K,hK⟩:=hk ps hp _ ⟨[115,116,101,112,115]::l.map za6,hs2⟩
    exact ⟨_::K,by rw [hs,hK];rfl⟩
   obtain ⟨K,hK⟩:=hin
   simp [hK]
  simp [this]
 have hh:zgi ([112,114,111,116,111,99,111,108,32]++prF k++[32]++itT faults)=((k:Int),faults,true):=by
  have e3:[112,114,111,116,111,99,111,108,32]++prF k++[32]++itT faults=zet 32 [[112,114,111,116,111,99,111,108],prF k,itT faults]:=by simp [zet]
  rw [e3]
  have e4:zaf 32 (zet 32 [[112,114,111,116,111,99,111,108],prF k,itT faults])=[[112,114,111,116,111,99,111,108],prF k,itT faults]:=zgL 32 _ (by simp) (by
   intro w hw
   simp only [List.mem_cons,List.not_mem_nil,or_false] at hw
   rcases hw with rfl|rfl|rfl
   ·decide
   ·exact p2
   ·exact q2)
  rw [zB6 e4,if_pos ⟨rfl,zsv k k1 k2⟩,(zoR k k1 k2).2,zkU faults f1 f2]
 unfold zk1
 rw [if_neg (by omega),hlast]
 have hL:zd5 (zcf ps k faults l)=([112,114,111,116,111,99,111,108,32]++prF k++[32]++itT faults)::(zaf 10 (ps.flatMap zbA++([115,116,101,112,115]++10::(l.flatMap fun x=>za6 x++[10])))).dropLast:=by
  unfold zd5
  rw [hs,ztg]
 rw [hL]
 dsimp only
 rw [hh,if_neg (by simp),g2]
 rw [hd2] at g1 ⊢
 obtain ⟨g,rfl⟩:∃ g,f'=g+1:=⟨f' - 1,by simp at g1;omega⟩
 have hne:([]++ps.map fun p=>(zaR p).1)≠[]:=by simpa using h0
 rw [zbT,if_neg (by decide),if_pos ⟨rfl,hne⟩]
 dsimp only
 rw [zj5 l [] _ hl (by simpa using h4),if_neg (by simp)]
 simp
theorem zvT (xs:List UInt8) (a:Nat) (h:zlk (zaS xs a).1=false):RdP (zaS xs a).1:=by
 have hc:=zft xs a
 have hr:=ziJ xs a
 obtain ⟨g,d⟩:=zvL hc hr
 have hf:zjc (zaS xs a).1=(pgT (zaS xs a).1,0):=by
  unfold zlk zjc at h
  unfold zjc
  rw [hc] at h ⊢
  rw [if_neg (by simp)] at h ⊢
  split at h
  ·simp at h
  ·rename_i hl;rw [if_neg hl]
 refine ⟨g,d,hf,?_,?_⟩
 ·unfold zjc at hf
  rw [hc,if_neg (by simp)] at hf
  split at hf
  ·have:=congrArg Prod.snd hf;simp at this
  ·omega
 ·rw [zgY]
  obtain ⟨u,v,w,h⟩:=ziO xs a
  rw [h.resolves]
theorem zj6 (xs:List UInt8):∀ (n a:Nat) (ps:List PgD),(∀ p ∈ ps,∃ b,p=(zaS xs b).1)→∀ p ∈ (zcu xs n a ps).1,∃ b,p=(zaS xs b).1
 |0,_,_,h=>h
 |n+1,a,ps,h=>by
  rw [zcu]
  refine zj6 xs n _ _ ?_
  intro p hp
  rcases List.mem_append.1 hp with hp|hp
  ·exact h p hp
  ·simp at hp;exact ⟨a,hp⟩
theorem zth (xs:List UInt8):∀ p ∈ (zhf xs).ps,∃ b,p=(zaS xs b).1:=by
 intro p hp
 unfold zhf at hp
 exact zj6 xs _ _ _ (by simp) p hp
theorem zvU {x:StD} (h:zwl x):zll x=false:=by
 unfold zll
 have:=zEM x.kind h.2.2.1 h.2.2.2
 simp [this,h.2.1]
theorem zti (xs:List UInt8) (a:Nat) (h:zlk (zaS xs a).1=true):(zjc (zaS xs a).1).2=5:=by
 have hc:=zft xs a
 unfold zlk at h
 unfold zjc at h ⊢
 rw [hc,if_neg (by simp)] at h ⊢
 split
 ·rfl
 ·rename_i hl;rw [if_neg hl] at h;simp at h
theorem zmH {xs:List UInt8} {ps:List PgD} {protocol faults:Int} {l:List StD} {at_:Nat} (hd:zhf xs=⟨ps,protocol,faults,l,at_⟩) (ok:DrOk xs ⟨ps,protocol,faults,l,at_⟩) :
  ((zbB ps protocol faults l).2=5)∨((zbB ps protocol faults l).2=0∧zk1 (zbB ps protocol faults l).1=(⟨ps.map fun p=>(zaR p).1,protocol,faults,l⟩,0,0)∧∀ p ∈ ps,(zaR p).2=0):=by
 have hm:=zth xs
 rw [hd] at hm
 have h1:=ok.h1
 have h3:=ok.h3
 have q1:=ok.q1
 have q8:=ok.q8
 have h14:=ok.h14
 have hl:=ok.hl
 have hf:=ok.f
 dsimp only at hm h1 h3 q1 q8 h14 hl hf
 unfold zbB
 rw [if_neg (by omega),if_neg (by rintro (h|h|h);(subst h;simp at h1);omega;omega)]
 cases hp:ps.find? zlk with
 |some p=>
  left
  obtain ⟨b,rfl⟩:=hm p (List.mem_of_find?_eq_some hp)
  exact zti xs b (List.find?_some hp)
 |none=>
  have hg:∀ p ∈ ps,RdP p:=by
   intro p hpm
   obtain ⟨b,rfl⟩:=hm p hpm
   refine zvT xs b ?_
   have:=List.find?_eq_none.1 hp _ hpm
   simpa using this
  have hs:l.find? zll=none:=zk7 _ _ fun x hx=>zvU (hl x hx)
  dsimp only
  rw [hs]
  dsimp only
  by_cases hlen:65536<(zcf ps protocol faults l).length
  ·left;rw [if_pos hlen]
  ·right
   rw [if_neg hlen]
   obtain ⟨k,hk⟩:∃ k:Nat,protocol=k:=⟨protocol.toNat,by omega⟩
   subst hk
   exact ⟨rfl,znP hg (by intro e;rw [e] at h1;simp at h1) (by omega) (by omega) (by omega) hf.1 hf.2 hl (by omega) (by omega),fun p hp=>(hg p hp).res⟩
open Go Go.ChangeShapes Go.WideShapes Go.ChangeAt Go.RowKit
def zfq (W:World):Mem:=fun b i=>W.cell? ⟨b,i,none⟩
structure Held (W W':World):Prop where
 os:W'.os=W.os
 output:W'.output=W.output
 size:W.heap.size≤W'.heap.size
 same:∀ b,b<W.heap.size→W'.heap[b]?=W.heap[b]?
theorem zvV {P:Program} {gl:Nat→Option (List PVal)} {f:FuncId} {W:World} (pvs:List PVal) (vargs:List Value) (hac:AC P gl f (pvs.map .pv) [] (.pv (.bool true)) [])
  (hgl:GOK ⟨fun _=>none,gl,fun _=>0,0⟩ (zfq W)) (hex:∀ b cs,gl b=some cs→cs≠[]→∃ vals T l,W.heap[b]?=some (.cells vals T l)∧vals.size=cs.length) (hlen:vargs.length=pvs.length) (hrd:∀ i,i<pvs.length→Rd (zfq W) (pvs.getD i .nilptr) (vargs.getD i undef)) :
  Calls P f vargs.toArray W fun e W'=>e=.returned (.bool true)∧Held W W':=by
 have hR:Rel ⟨W,zfq W,zaE ⟨fun _=>0,fun _=>0,fun _=>false⟩ [],[]⟩ ⟨pvs.map .pv,[]⟩ ⟨fun _=>0,fun _=>0,fun _=>false⟩ (zfq W) ⟨vargs.toArray,[]⟩ W:=by
  refine ⟨by simpa using hlen,rfl,fun i hi=>?_,?_,?_,?_,fun b i u h=>h,Mem.le_refl _,fun _ _ _ _=>rfl,Nat.le_refl _,fun _ _ _=>rfl,?_,rfl,rfl,rfl⟩
  ·simp only [List.length_map] at hi
   have h1:=hrd i hi
   have e1:St.slot ⟨pvs.map .pv,[]⟩ i=.pv (pvs.getD i .nilptr):=by simp [St.slot,List.getD,hi]
   have e2:vargs.toArray.getD i undef=vargs.getD i undef:=by simp [Array.getD,List.getD,hlen,hi]
   rw [e1]
   show V _ _ _ _ (vargs.toArray.getD i undef)
   rw [e2]
   exact .pv h1
  ·intro id o h;simp [St.obj] at h
  ·intro id id' o o' b h;simp [St.obj] at h
  ·intro id o b h;simp [St.obj] at h
  ·intro id o b h;simp [St.obj] at h
 refine (hac W (zfq W) _ vargs hR ⟨hgl,fun b cs hb hne=>⟨by rintro ⟨id,ob,h,_⟩;simp at h,hex b cs hb hne⟩⟩).mono fun e W' ⟨v,g',M',he,hR',_⟩=>?_
 have hs:=hR'.slots 0 (by simp)
 have hv:v=.bool true:=by
  have h1:V g' (St.dom ⟨[.pv (.bool true)],[]⟩) M' (.pv (.bool true)) v:=by simpa [St.slot,Array.getD] using hs
  cases h1 with
  |pv h=>cases h;rfl
 have hB:∀ b,¬ zaE ⟨fun _=>0,fun _=>0,fun _=>false⟩ [] b:=by rintro b ⟨id,ob,h,_⟩;simp at h
 exact ⟨by rw [he,hv],hR'.os,hR'.output,hR'.size0,fun b hb=>hR'.same b hb (hB b)⟩
section
variable {H:Type} {enc:TypeId × Value→H} {P:Program}
theorem Held.sameAt {W W':World} (h:Held W W') {p:MemPlace} (hp:p.block<W.heap.size):W.sameAt W' p:=by
 cases p with
 |cell b off=>show W'.cell? _=W.cell? _;simp only [World.cell?];rw [h.same b hp]
 |map b=>exact h.same b hp
theorem zgq (hl:laidOutB P=true) {W W':World} (hh:Held W W') {sp':Nat→Bool}:∀ {ts:List TypeId} {vs:List Value} {ds:List (DataW H)} {ps:List MemPlace},(∀ t ∈ ts,P.readableRec t=true∧t<P.types.size) →
  DataW.TrodAll enc P W 0 (fun _=>true) true ts vs ds ps→(∀ p ∈ ps,p.block<W.heap.size)→(∀ p ∈ ps,sp' p.block=true)→DataW.TrodAll enc P W' 0 sp' true ts vs ds ps
 |[],[],[],_,_,h,_,_=>h
 |[],[],_::_,_,_,h,_,_=>h.elim
 |[],_::_,_,_,_,h,_,_=>h.elim
 |_::_,[],_,_,_,h,_,_=>h.elim
 |_::_,_::_,[],_,_,h,_,_=>h.elim
 |t::ts,v::vs,d::ds,ps,hr,⟨p,q,h1,h2,he⟩,hlt,hsp=>by
  subst he
  have hr1:=hr t (by simp)
  exact ⟨p,q,WideElems.Trod_stays hl hr1.1 hr1.2 h1 (fun x hx=>hh.sameAt (hlt x (by simp [hx]))) (fun x hx=>hsp x (by simp [hx])),
   zgq hl hh (fun t ht=>hr t (by simp [ht])) h2 (fun x hx=>hlt x (by simp [hx])) (fun x hx=>hsp x (by simp [hx])),rfl⟩
theorem Held.keptBut {W W':World} (h:Held W W') (may:MemPlace→Prop):W.keptBut W' may:=by
 refine ⟨h.os,h.output,fun i hi=>?_⟩
 rw [h.same i hi]
 split
 ·rename_i h1 h2;rw [h1] at h2;cases h2;exact ⟨rfl,rfl,rfl,fun _ _=>rfl⟩
 ·rename_i h1 h2;rw [h1] at h2;cases h2;exact .inr ⟨rfl,rfl⟩
 ·rfl
theorem zvW {f:Func} {s:ChangeSpec} {fresh handsOn again:Bool} {W W':World} {args:Array Value} {ds gs:List (DataW H)} {before:List MemPlace} {tb:TypeId}
  (hl:laidOutB P=true) (hr:∀ t ∈ f.params.toList,P.readableRec t=true∧t<P.types.size) (hrt:f.resultTypes=#[tb]) (htb:P.underlying tb=some .bool)
  (hvars:s.vars=[]) (hfn:∀ ds:List (DataW H),ds.length=f.params.size→(s.fn H ds).results=[.lit (.bool true)]∧(s.fn H ds).args=ds∧(s.fn H ds).vars=[])
  (hW:DataW.Whole enc P f.params.toList s.vars false W args.toList ds gs before) (hh:Held W W') :
  s.post enc P f false fresh handsOn again W args (.bool true) W':=by
 have hlt:=hW.lt
 have hW':=hW
 obtain ⟨p,q,hA,hV,rfl,hz,hn⟩:=hW
 rw [hvars] at hV
 obtain ⟨rfl,rfl⟩:=trodVars_none hV
 rw [List.append_nil] at hlt hz hn hW'
 have hdl:ds.length=f.params.size:=by
  have:∀ {ts:List TypeId} {vs:List Value} {ds:List (DataW H)} {ps:List MemPlace},DataW.TrodAll enc P W 0 (fun _=>true) true ts vs ds ps→ds.length=ts.length:=by
   intro ts
   induction ts with
   |nil=>intro vs ds ps h;obtain ⟨_,rfl,_⟩:=trodAll_nil h;rfl
   |cons t ts ih=>
    intro vs ds ps h
    obtain ⟨_,_,_,_,_,_,_,rfl,_,_,h2⟩:=trodAll_cons h
    simp [ih h2]
  simpa using this hA
 obtain ⟨f1,f2,f3⟩:=hfn (ds++[]) (by simpa using hdl)
 have hres:∀ (b:Nat) (sp:Nat→Bool) (hd:Bool),DataW.TrodAll enc P W' b sp hd f.resultTypes.toList ((Value.bool true).resultList f.resultTypes.size) (s.fn H (ds++[])).results []:=fun b sp hd=>by
  rw [f1,hrt]
  exact trodAll_cons_mk (shut_bool htb _) trodAll_mk0
 have hargs:∀ sp:Nat→Bool,(∀ x ∈ p,sp x.block=true)→DataW.TrodAll enc P W' 0 sp true f.params.toList args.toList (s.fn H (ds++[])).args p:=fun sp hsp=>by
  rw [f2,List.append_nil]
  exact zgq hl hh hr hA hlt hsp
 have hvs:∀ sp:Nat→Bool,DataW.TrodVars enc P W' sp s.vars (s.fn H (ds++[])).vars []:=fun sp=>by rw [hvars,f3];rfl
 refine ⟨ds,[],p,[],p,[],hW',hres _ _ _,hargs _ (fun x hx=>by simpa using hlt x hx),hvs _,hh.keptBut _,fun _=>?_⟩
 refine ⟨?_,_,_,([]++p)++[],⟨[]++p,[],trodAll_append (hargs _ (fun _ _=>rfl)) (hres _ _ _),hvs _,rfl,?_,?_⟩,?_⟩
 ·exact ok_one (by rw [hrt]) rfl (okWide_bool_mk htb _)
 ·intro b off hp
  have hp':MemPlace.cell b off ∈ p:=by simpa using hp
  have:=hz b off hp'
  rw [World.frozen?,hh.same b (hlt _ hp')]
  exact this
 ·intro ha;cases ha
 ·intro x hx _
  simpa using hx
end
end Go.Abs
namespace Go.Abs
open Go Go.ChangeShapes Go.WideShapes Go.ChangeAt Go.RowKit Go.Deep
section
variable {H:Type} {enc:TypeId × Value→H} {P:Program} {W:World} {spare:Nat→Bool} {held:Bool}
theorem zvX (b off k:Nat):(⟨b,off,none⟩:Addr).add k=⟨b,off+k,none⟩:=by
 unfold Addr.add
 split
 ·rename_i h;subst h;rfl
 ·rfl
theorem ztj {base:Nat} {t e:TypeId} {a:Addr} {len cap:Nat} (ht:P.underlying t=some (.slice e)) (hv:Value.okWide P W .any base t (.slice (some a) len cap)):a.spot=none:=by
 simp only [Value.okWide,ht,Cell.okWide,Cell.ok] at hv
 exact hv.2.2.2.1
end
end Go.Abs
namespace Go.Abs
open Go Go.ChangeShapes Go.WideShapes Go.ChangeAt Go.RowKit Go.Deep
section
variable {H:Type} {enc:TypeId × Value→H} {P:Program} {W:World} {spare:Nat→Bool} {held:Bool}
theorem zqs {base:Nat} {t e:TypeId} {v:Value} {d:DataW H} {p:List MemPlace} (ht:P.underlying t=some (.slice e)) (he:P.underlying e=some (.int .u8)) (hC:P.cellsOf e=1)
  (hval:Value.okWide P W .any base t v) (h:DataW.Trod enc P W 0 spare held t v d p):∃ l:List UInt8,Rd (zfq W) (.slice (l.map zmM)) v:=by
 obtain ⟨a',len',cap',rfl⟩:=okWide_slice ht hval
 obtain ⟨fuel,hf⟩:=h
 rcases Go.ChangeShapes.open_ints ht he hC hf with ⟨hcs,_⟩|⟨a,len,cap,zs,hcs,_,hlc,_,hzl,_,hcell,hwf⟩
 ·simp [Value.cells] at hcs
  obtain ⟨rfl,rfl,rfl⟩:=hcs
  exact ⟨[],.nils⟩
 ·simp [Value.cells] at hcs
  obtain ⟨rfl,rfl,rfl⟩:=hcs
  have hsp:=ztj ht hval
  obtain ⟨b,off,sp⟩:=a
  cases hsp
  have hml:len'≤zs.length:=by rw [hzl];split<;>omega
  have hz:∀ i,i<zs.length→∃ u:UInt8,zs.getD i 0=(u.toNat:Int):=fun i hi=>by
   have hm:zs.getD i 0 ∈ zs:=by simp [List.getD,hi]
   have:=hwf _ hm
   have hr:0≤zs.getD i 0∧zs.getD i 0≤255:=by simpa [Lit.wf,IntKind.min,IntKind.max,IntKind.bits,IntKind.signed] using this
   refine ⟨UInt8.ofNat (zs.getD i 0).toNat,?_⟩
   rw [UInt8.toNat_ofNat']
   omega
  let g:Nat→UInt8:=fun i=>if h:i<zs.length then Classical.choose (hz i h) else 0
  have hg:∀ i,i<zs.length→zs.getD i 0=((g i).toNat:Int):=fun i hi=>by
   have:=Classical.choose_spec (hz i hi)
   simp only [g,hi,dif_pos];exact this
  refine ⟨(List.range len').map g,?_⟩
  have hlen:(((List.range len').map g).map zmM).length=len':=by simp
  have:=Rd.slice (M:=zfq W) (((List.range len').map g).map zmM) 1 b off cap' (fun i _=>.int .u8 (((g i).toNat:Nat):Int))
   (fun x hx=>by simp at hx;obtain ⟨i,_,rfl⟩:=hx;rfl) (fun i j hi hj=>?_) (fun i j hi hj=>?_) (by rw [hlen];exact hlc)
  ·rw [hlen] at this;exact this
  ·rw [hlen] at hi
   have hj0:j=0:=by omega
   subst hj0
   have hc:=hcell i (by omega)
   rw [zvX] at hc
   rw [hg i (by omega)] at hc
   simpa [zfq] using hc
  ·rw [hlen] at hi
   have hj0:j=0:=by omega
   subst hj0
   have hc:zbw (((List.range len').map g).map zmM) i 0=.int .u8 (((g i).toNat:Nat):Int):=by simp [zbw,List.getD,hi,zmM]
   rw [hc]
   exact .int _ _
end
end Go.Abs
namespace Go.Abs
open Go
theorem zff {H:Type} {enc:TypeId × Value→H} {P:Program} {w:World} {base:Nat} {spare:Nat→Bool} {held:Bool} {fuel:Nat} {t e:TypeId} {cs:List Value} {ps:List MemPlace} {n:Nat} {ds:List (List UInt8)}
  (ht:P.underlying t=some (.array n e)) (he:P.underlying e=some .string) (hC:P.cellsOf e=1)
  (h:DataW.trod enc P w base spare held fuel t cs=some (.agg (ds.map fun s=>.lit (.string s)),ps)) (i:Nat) (hi:i<ds.length):cs[i]?=some (.string ⟨(ds.getD i []).toArray⟩):=by
 obtain ⟨xs,m,_,hx,_,hn,hel⟩:=DataW.trod_array ht h
 simp only [Prod.mk.injEq,DataW.agg.injEq] at hx
 have hlen:ds.length=xs.length:=by have:=congrArg List.length hx.1;simpa using this
 have h1:=hel i (by omega)
 rw [hC,List.getElem?_eq_getElem (by omega)] at h1
 obtain ⟨s,e1,e2,_⟩:=DataW.trod_string he h1
 have h2:(ds.map fun s=>(DataW.lit (.string s):DataW H))[i]?=(xs.map (fun x=>x.fst))[i]?:=by rw [hx.1]
 rw [List.getElem?_map,List.getElem?_map,List.getElem?_eq_getElem hi,List.getElem?_eq_getElem (by omega:i<xs.length)] at h2
 simp only [Option.map_some,Option.some.injEq] at h2
 rw [e2] at h2
 simp only [DataW.lit.injEq,Lit.string.injEq] at h2
 have h3:ds.getD i []=s.data.toList:=by simp [List.getD,hi,h2]
 rw [h3]
 have h4:cs[i]?=some (.string s):=by
  have:=congrArg (fun l=>l[0]?) e1
  simpa using this
 rw [h4]
theorem ztk {H:Type} {enc:TypeId × Value→H} {P:Program} {w:World} {base:Nat} {spare:Nat→Bool} {held:Bool} {fuel:Nat} {t e:TypeId} {cs:List Value} {ps:List MemPlace} {n:Nat} {k:IntKind} {ds:List Int}
  (ht:P.underlying t=some (.array n e)) (he:P.underlying e=some (.int k)) (hC:P.cellsOf e=1)
  (h:DataW.trod enc P w base spare held fuel t cs=some (.agg (ds.map fun s=>.lit (.int k s)),ps)) (i:Nat) (hi:i<ds.length):cs[i]?=some (.int k (ds.getD i 0)):=by
 obtain ⟨xs,m,_,hx,_,hn,hel⟩:=DataW.trod_array ht h
 simp only [Prod.mk.injEq,DataW.agg.injEq] at hx
 have hlen:ds.length=xs.length:=by have:=congrArg List.length hx.1;simpa using this
 have h1:=hel i (by omega)
 rw [hC,List.getElem?_eq_getElem (by omega)] at h1
 obtain ⟨s,e1,e2,_⟩:=DataW.trod_int he h1
 have h2:(ds.map fun s=>(DataW.lit (.int k s):DataW H))[i]?=(xs.map (fun x=>x.fst))[i]?:=by rw [hx.1]
 rw [List.getElem?_map,List.getElem?_map,List.getElem?_eq_getElem hi,List.getElem?_eq_getElem (by omega:i<xs.length)] at h2
 simp only [Option.map_some,Option.some.injEq] at h2
 rw [e2] at h2
 simp only [DataW.lit.injEq,Lit.int.injEq] at h2
 have h3:ds.getD i 0=s:=by simp [List.getD,hi,h2]
 rw [h3]
 have h4:cs[i]?=some (.int k s):=by
  have:=congrArg (fun l=>l[0]?) e1
  simpa using this
 rw [h4]
theorem zj7 {H:Type} {enc:TypeId × Value→H} {P:Program} {w:World} {base:Nat} {spare:Nat→Bool} {held:Bool} {fuel:Nat} {t:TypeId} {cs:List Value} {ps:List MemPlace} {ms:Array (String × TypeId)} {nm:String} {d:DataW H}
  (ht:P.underlying t=some (.interface ms)) (h:DataW.trod enc P w base spare held fuel t cs=some (.iface nm d,ps)):∃ u v,cs[0]?=some (.iface u v):=by
 cases fuel with
 |zero=>simp [DataW.trod] at h
 |succ f=>
  unfold DataW.trod at h
  rw [ht] at h
  split at h<;>simp_all
theorem zdC {P:Program} {W:World} {name:String} {b:Nat} {cs:Array Value} (hg:P.globalNamed name=some b) (hv:W.var? P name=some cs):∃ T l,W.heap[b]?=some (.cells cs T l):=by
 unfold World.var? at hv
 rw [hg] at hv
 simp only [Option.bind_some] at hv
 split at hv
 ·rename_i cs' T l h
  cases hv
  exact ⟨T,l,h⟩
 ·cases hv
theorem zd9 {H:Type} {enc:TypeId × Value→H} {P:Program} {w:World} {base:Nat} {spare:Nat→Bool} {held:Bool} {fuel:Nat} {t e:TypeId} {cs:Array Value} {x:DataW H × List MemPlace} {n m:Nat}
  (ht:P.underlying t=some (.array n e)) (hC:P.cellsOf t=m) (h:DataW.trod enc P w base spare held fuel t cs.toList=some x):cs.size=m:=by
 obtain ⟨_,_,_,_,hl,_⟩:=DataW.trod_array ht h
 simpa [hC] using hl
theorem zj8 {H:Type} {enc:TypeId × Value→H} {P:Program} {w:World} {base:Nat} {spare:Nat→Bool} {held:Bool} {fuel:Nat} {t:TypeId} {cs:Array Value} {ps:List MemPlace} {ms:Array (String × TypeId)} {nm:String} {d:DataW H}
  (ht:P.underlying t=some (.interface ms)) (h:DataW.trod enc P w base spare held fuel t cs.toList=some (.iface nm d,ps)):cs.size=1:=by
 rw [←Array.length_toList]
 generalize cs.toList=l at *
 cases fuel with
 |zero=>simp [DataW.trod] at h
 |succ f=>
  unfold DataW.trod at h
  rw [ht] at h
  split at h<;>simp_all
variable {H:Type} {enc:TypeId × Value→H}
theorem zjj {a:Assume} {C:Checked} {os:Os} {f:FuncId} {fn:Func} {s:ChangeSpec} {conds:List PathCond} {apart fresh handsOn again:Bool} {X:World→Array Value→Prop}
  (hX:∀ (w w':World) (args:Array Value),w.heap=w'.heap→X w args→X w' args)
  (own:ownKnob C.prog.godebug=none) (started:os.Started) (noInit:C.prog.inits.idxOf? f=none) (hfn:C.prog.funcs[f]?=some fn)
  (witness:∃ (w:World) (tape:Tape) (i:Input),w.os=os∧(w.forCall tape i).Shaped C.prog∧i.vars=[]∧Input.okWide C.prog (w.forCall tape i) .any w.heap.size f i ∧
   ((s.pre enc C.prog fn conds apart (w.forCall tape i).memory i.args∧X (w.forCall tape i).memory i.args)∧sizedMet enc C.prog fn (OpenSpec.ofChange s) apart (w.forCall tape i).memory i.args)∧a.holds C.prog (lone (Frame.enter C.prog f i.args .normal) [] (w.forCall tape i)))
  (contract:∀ (W:World) (base:Nat) (args:Array Value) (ds gs:List (DataW H)) (before:List MemPlace),
   (∀ (j:Nat) t v,fn.params[j]?=some t→args[j]?=some v→Value.okWide C.prog W .any base t v) →
   DataW.Whole enc C.prog fn.params.toList s.vars apart W args.toList ds gs before →
   conds.all (PathCond.test C.prog ⟨fn.params.toList,ds,s.plain.varTypes C.prog,gs⟩)=true →
   (DataW.weightsEach C.prog (fn.params.toList++s.plain.varTypes C.prog) (ds++gs)).all (·≤reachBytes)=true→X W args→W.ShapedOpen C.prog →
   Calls C.prog f args W fun e W'=>∃ v,e=.returned v∧s.post enc C.prog fn apart fresh handsOn again W args v W') :
  ReturnsInHanded a C os f .any (fun w args=>(s.pre enc C.prog fn conds apart w args∧X w args)∧sizedMet enc C.prog fn (OpenSpec.ofChange s) apart w args) (s.post enc C.prog fn apart fresh handsOn again):=by
 refine returnsInHanded_of_calls own started noInit witness ?_
 intro w tape i _ hsh _ hok hpre hholds
 obtain ⟨_,_,_,fn',hfn',_,_,_,_,hval⟩:=hok
 have e:fn'=fn:=Option.some.inj (hfn'.symm.trans hfn)
 subst e
 obtain ⟨⟨⟨ds,gs,before,hw,hc⟩,hx⟩,hz⟩:=hpre
 have hw':=DataW.Whole.of_heap (w':=w.forCall tape i) (by rfl) hw
 refine (contract (w.forCall tape i) w.heap.size i.args ds gs before hval hw' hc (hz.weights hw) (hX _ _ _ (by rfl) hx) hsh).mono fun e W' ⟨v,he,hp⟩=>?_
 subst he
 exact ChangeSpec.post_blind hp
theorem ztl {P:Program} {w:World} {g:Nat} {t:TypeId} {zero:Array Value} {k:IntKind}
  (h:w.ShapedOpen P) (hg:g<P.globals.size)
  (h0:((begin P (fun _ _=>0) default).world.heap[g]?).bind Obj.row?=some (zero,t)) (hz:zero.size=1)
  (hb:P.buildable t=true) (hc:P.cellTypes P.depth t=some [t]) (hu:P.underlying t=some (.int k)) :
  (∃ m,w.cell? ⟨g,0,none⟩=some (.int k m))∧∃ vals T l,w.heap[g]?=some (.cells vals T l)∧vals.size=1:=by
 refine ⟨Go.Proofs.cell_of_shapedOpen_int h hg h0 hz hb hc hu,?_⟩
 obtain ⟨cs,hh,hs,_⟩:=h.1 g zero t hg h0
 exact ⟨cs,t,_,hh,by omega⟩
end Go.Abs
