/- The reference's reading of a number. No condition. -/
import Derived.Test.YtfinhhblcdkpgaaGreatDoorK5
import Derived.Test.YtfinhhblcdkpgaaGreatDoorLib3
set_option maxRecDepth 100000
set_option maxHeartbeats 64000000
set_option linter.unusedSimpArgs false
set_option linter.unusedVariables false
set_option linter.defProp false
namespace Go.Proofs.YtfinhhblcdkpgaaGreatDoor
open Go Go.Abs Go.RowKit
theorem zfN (w:List UInt8) (hl:w.length≤10000000):AC Tryz.prog gl 75 [.pv (.str w)] [] (.tup [.pv (.int .i64 (zaW w).1),.pv (.bool (zaW w).2)]) []:=by
 by_cases h45:0<w.length∧w.getD 0 0=45
 ·obtain ⟨hw0,h45⟩:=h45
  have hb:=u8b (w.getD 0 0) 45
  simp only [UInt8.reduceToNat,Int.cast_ofNat_Int] at hb
  rw [show (w.getD 0 0==45)=true by simpa using h45] at hb
  have hw1:(w.length:Int) > 0:=by omega
  have hw2:(1:Int)≤w.length:=by omega
  have hw3:1≤w.length:=by omega
  obtain ⟨d,hd⟩:∃ d,dgs w=d:=⟨_,rfl⟩
  have hsl:(w.take w.length).drop 1=d:=by
   rw [List.take_length,←hd]
   cases w with
   |nil=>simp at hw0
   |cons c r=>simp at h45;simp [dgs,h45]
  refine zap (fun _=>0) 0 zFi ?_
  by_cases hz:d.length=0
  ·have hv:zaW w=(0,false):=by
    unfold zaW
    rw [hd,if_pos (.inl (List.eq_nil_of_length_eq_zero hz))]
   have hz':(d.length:Int)=0:=by omega
   rw [hv]
   repeat' first|refine Va (fA9 zfX hw0 hsl hz hz' hb hw1 hw2 hw3) ?_|(with_reducible first|refine SB.c ?_ ?_<;>intro _|exact zad)|with_reducible refine zac ?_|omega
  ·have hz':¬ (d.length:Int)=0:=by omega
   have hz2:((d.length:Int)==0)=false:=by simpa using hz'
   have hzp:0<d.length:=by omega
   by_cases h19:19<d.length
   ·have hv:zaW w=(0,false):=by
     unfold zaW
     rw [hd,if_pos (.inr (.inl h19))]
    have h19':(d.length:Int) > 19:=by omega
    rw [hv]
    repeat' first|refine Va (zj4 zfX hw0 hsl hz' hz2 h19' hb hw1 hw2 hw3) ?_|(with_reducible first|refine SB.c ?_ ?_<;>intro _|exact zad)|with_reducible refine zac ?_|omega
   ·have h19':¬ (d.length:Int) > 19:=by omega
    have h48:=u8b (d.getD 0 0) 48
    simp only [UInt8.reduceToNat,Int.cast_ofNat_Int] at h48
    have hh:d.head?=some 48 ↔ d.getD 0 0=48:=by
     cases d with
     |nil=>simp at hzp
     |cons c r=>simp
    by_cases hl:d.getD 0 0=48∧(1<d.length∨1<w.length)
    ·have hv:zaW w=(0,false):=by
      unfold zaW
      rw [hd,if_pos (.inr (.inr ⟨hh.2 hl.1,hl.2⟩))]
     have hb1:(d.getD 0 0==48)=true:=by simpa using hl.1
     rw [hb1] at h48
     rw [hv]
     rcases Decidable.em (1<d.length) with hx|hx
     ·have hx':(d.length:Int) > 1:=by omega
      repeat' first|refine Va (zru zfX hw0 hsl hz' hz2 hzp h19' h48 hx' hb hw1 hw2 hw3) ?_|(with_reducible first|refine SB.c ?_ ?_<;>intro _|exact zad)|with_reducible refine zac ?_|omega
     ·have hx':¬ (d.length:Int) > 1:=by omega
      have hy:(w.length:Int) > 1:=by omega
      repeat' first|refine Va (zBC zfX hw0 hsl hz' hz2 hzp h19' h48 hx' hy hb hw1 hw2 hw3) ?_|(with_reducible first|refine SB.c ?_ ?_<;>intro _|exact zad)|with_reducible refine zac ?_|omega
    ·have hc:¬ (d=[]∨19<d.length∨(d.head?=some 48∧(1<d.length∨1<w.length))):=by
      rintro (e|e|⟨e1,e2⟩)
      ·rw [e] at hz;simp at hz
      ·exact h19 e
      ·exact hl ⟨hh.1 e1,e2⟩
     have hgo:∀ Q:Prop,((d.getD 0 0=48→(¬ (d.length:Int) > 1∧¬ (w.length:Int) > 1))):=by
      intro Q e
      refine ⟨fun h=>hl ⟨e,.inl (by omega)⟩,fun h=>hl ⟨e,.inr (by omega)⟩⟩
     have hgo:=hgo True
     have hlen:((d.length:Int)<w.length)=(d.length<w.length):=by simp
     rcases Decidable.em (d.getD 0 0=48) with he|he
     ·have hb1:(d.getD 0 0==48)=true:=by simpa using he
      rw [hb1] at h48
      have hx:=hgo he
      repeat' first|refine Va (zBC zfX hw0 hsl hz' hz2 hzp h19' h48 hx.1 hx.2 hb hw1 hw2 hw3) ?_|(with_reducible first|refine SB.c ?_ ?_<;>intro _|exact zad)|with_reducible refine zac ?_|omega
      refine zaI (ι:={k:Nat // k≤d.length∧∀ j,j<k→isD (d.getD j 0)=true}) (fun i=>⟨(.pv (.str w)::.junk::.pv (.int .i64 0)::.pv (.bool false)::.pv (.str d)::.pv (.int .u64 (zba (d.take i.1)))::.pv (.int .i64 i.1)::jl 72 []),[]⟩) (fun i=>d.length - i.1) ⟨0,by omega,fun j hj=>absurd hj (Nat.not_lt_zero _)⟩ (WFe (by simp [kwf,List.take_zero,show zba []=0 from rfl]) (by simp [kwf,List.take_zero,show zba []=0 from rfl])) ?_
      rintro ⟨k,hk,hall⟩
      have hsm:=zcJ d k hk hall (by omega)
      by_cases hlt:k<d.length
      ·have hlt':(k:Int)<d.length:=by omega
       have hw:=zaQ k (by omega)
       by_cases hdg:isD (d.getD k 0)=true
       ·have hdl:=zcC hdg
        have e1:¬ ((d.getD k 0).toNat:Int)<48:=by omega
        have e2:¬ ((d.getD k 0).toNat:Int) > 57:=by omega
        have hall':∀ j,j<k+1→isD (d.getD j 0)=true:=fun j hj=>by
         rcases Nat.lt_or_ge j k with h|h
         ·exact hall j h
         ·rw [show j=k by omega];exact hdg
        have hsm':=zcJ d (k+1) (by omega) hall' (by omega)
        have hvt:=zg6 d k hlt
        obtain ⟨c,hcd⟩:∃ c,(d.getD k 0).toNat=c:=⟨_,rfl⟩
        rw [hcd] at hdl e1 e2 hvt
        have e3:IntKind.u64.wrap (10 * ((zba (d.take k):Nat):Int))=10 * ((zba (d.take k):Nat):Int):=IntWalk.u64_in _ ⟨by omega,by omega⟩
        have e4:IntKind.u8.wrap ((c:Int) - 48)=(c:Int) - 48:=IntWalk.u8_in _ ⟨by omega,by omega⟩
        have e5:IntKind.u64.wrap ((c:Int) - 48)=(c:Int) - 48:=IntWalk.u64_in _ ⟨by omega,by omega⟩
        have e6:IntKind.u64.wrap (10 * ((zba (d.take k):Nat):Int)+((c:Int) - 48))=((zba (d.take (k+1)):Nat):Int):=by rw [IntWalk.u64_in _ ⟨by omega,by omega⟩];omega
        repeat' first|refine Va (zfA zfX hlt hlt' hw e1 e2 e3 e4 e5 e6 hcd) ?_|(with_reducible first|refine SB.c ?_ ?_<;>intro _|exact zad)|with_reducible refine zac ?_|omega
        exact ⟨⟨k+1,by omega,hall'⟩,WFn,by show d.length - (k+1)<d.length - k;omega⟩
       ·have hv:zaW w=(0,false):=by
         unfold zaW
         rw [hd,if_neg hc,if_pos]
         rw [List.all_eq_false]
         refine ⟨d.getD k 0,?_,hdg⟩
         rw [List.getD_eq_getElem?_getD,List.getElem?_eq_getElem hlt]
         exact List.getElem_mem hlt
        rw [hv]
        by_cases e1:((d.getD k 0).toNat:Int)<48
        ·repeat' first|refine Va (fA5 zfX hlt hlt' hw e1) ?_|(with_reducible first|refine SB.c ?_ ?_<;>intro _|exact zad)|with_reducible refine zac ?_|omega
        ·have e2:((d.getD k 0).toNat:Int) > 57:=by
          have:¬ (48≤(d.getD k 0).toNat∧(d.getD k 0).toNat≤57):=fun h=>hdg (by unfold isD zcU;rw [Bool.and_eq_true,decide_eq_true_eq,decide_eq_true_eq];omega)
          omega
         repeat' first|refine Va (fA6 zfX hlt hlt' hw e1 e2) ?_|(with_reducible first|refine SB.c ?_ ?_<;>intro _|exact zad)|with_reducible refine zac ?_|omega
      ·have hlt':¬ (k:Int)<d.length:=by omega
       have hkk:k=d.length:=by omega
       subst hkk
       rw [List.take_length] at hsm
       have hall2:d.all isD=true:=by
        rw [List.all_eq_true]
        have:=zd5 d d.length (Nat.le_refl _) hall
        rwa [List.take_length] at this
       by_cases hls:d.length<w.length
       ·have hls':(d.length:Int)<w.length:=by omega
        have hv:zaW w=(IntKind.i64.wrap (-(zba d:Int)),decide ((zba d:Int)≤9223372036854775808)):=by
         unfold zaW
         rw [hd,if_neg hc,if_neg (by rw [hall2];simp),if_pos hls]
         simp only [Prod.mk.injEq,true_and]
         exact decide_eq_decide.2 (by omega)
        have e7:IntKind.i64.wrap (IntKind.u64.wrap (0 - (zba d:Int)))=IntKind.i64.wrap (-(zba d:Int)):=by rw [Int.zero_sub];exact ziw (zba d) hsm
        rw [hv]
        repeat' first|refine Va (fA5 zfX hlt' hls' @List.take_length.{0} e7) ?_|(with_reducible first|refine SB.c ?_ ?_<;>intro _|exact zad)|with_reducible refine zac ?_|omega
       ·have hls':¬ (d.length:Int)<w.length:=by omega
        have hv:zaW w=(IntKind.i64.wrap (zba d:Int),decide ((zba d:Int)<9223372036854775808)):=by
         unfold zaW
         rw [hd,if_neg hc,if_neg (by rw [hall2];simp),if_neg hls]
         simp only [Prod.mk.injEq,true_and]
         exact decide_eq_decide.2 (by omega)
        rw [hv]
        repeat' first|refine Va (fA4 zfX hlt' hls' @List.take_length.{0}) ?_|(with_reducible first|refine SB.c ?_ ?_<;>intro _|exact zad)|with_reducible refine zac ?_|omega
     ·have hb1:(d.getD 0 0==48)=false:=by simpa using he
      rw [hb1] at h48
      repeat' first|refine Va (zkA zfX hw0 hsl hz' hz2 hzp h19' h48 hb hw1 hw2 hw3) ?_|(with_reducible first|refine SB.c ?_ ?_<;>intro _|exact zad)|with_reducible refine zac ?_|omega
      refine zaI (ι:={k:Nat // k≤d.length∧∀ j,j<k→isD (d.getD j 0)=true}) (fun i=>⟨(.pv (.str w)::.junk::.pv (.int .i64 0)::.pv (.bool false)::.pv (.str d)::.pv (.int .u64 (zba (d.take i.1)))::.pv (.int .i64 i.1)::jl 72 []),[]⟩) (fun i=>d.length - i.1) ⟨0,by omega,fun j hj=>absurd hj (Nat.not_lt_zero _)⟩ (WFe (by simp [kwf,List.take_zero,show zba []=0 from rfl]) (by simp [kwf,List.take_zero,show zba []=0 from rfl])) ?_
      rintro ⟨k,hk,hall⟩
      have hsm:=zcJ d k hk hall (by omega)
      by_cases hlt:k<d.length
      ·have hlt':(k:Int)<d.length:=by omega
       have hw:=zaQ k (by omega)
       by_cases hdg:isD (d.getD k 0)=true
       ·have hdl:=zcC hdg
        have e1:¬ ((d.getD k 0).toNat:Int)<48:=by omega
        have e2:¬ ((d.getD k 0).toNat:Int) > 57:=by omega
        have hall':∀ j,j<k+1→isD (d.getD j 0)=true:=fun j hj=>by
         rcases Nat.lt_or_ge j k with h|h
         ·exact hall j h
         ·rw [show j=k by omega];exact hdg
        have hsm':=zcJ d (k+1) (by omega) hall' (by omega)
        have hvt:=zg6 d k hlt
        obtain ⟨c,hcd⟩:∃ c,(d.getD k 0).toNat=c:=⟨_,rfl⟩
        rw [hcd] at hdl e1 e2 hvt
        have e3:IntKind.u64.wrap (10 * ((zba (d.take k):Nat):Int))=10 * ((zba (d.take k):Nat):Int):=IntWalk.u64_in _ ⟨by omega,by omega⟩
        have e4:IntKind.u8.wrap ((c:Int) - 48)=(c:Int) - 48:=IntWalk.u8_in _ ⟨by omega,by omega⟩
        have e5:IntKind.u64.wrap ((c:Int) - 48)=(c:Int) - 48:=IntWalk.u64_in _ ⟨by omega,by omega⟩
        have e6:IntKind.u64.wrap (10 * ((zba (d.take k):Nat):Int)+((c:Int) - 48))=((zba (d.take (k+1)):Nat):Int):=by rw [IntWalk.u64_in _ ⟨by omega,by omega⟩];omega
        repeat' first|refine Va (zfA zfX hlt hlt' hw e1 e2 e3 e4 e5 e6 hcd) ?_|(with_reducible first|refine SB.c ?_ ?_<;>intro _|exact zad)|with_reducible refine zac ?_|omega
        exact ⟨⟨k+1,by omega,hall'⟩,WFn,by show d.length - (k+1)<d.length - k;omega⟩
       ·have hv:zaW w=(0,false):=by
         unfold zaW
         rw [hd,if_neg hc,if_pos]
         rw [List.all_eq_false]
         refine ⟨d.getD k 0,?_,hdg⟩
         rw [List.getD_eq_getElem?_getD,List.getElem?_eq_getElem hlt]
         exact List.getElem_mem hlt
        rw [hv]
        by_cases e1:((d.getD k 0).toNat:Int)<48
        ·repeat' first|refine Va (fA5 zfX hlt hlt' hw e1) ?_|(with_reducible first|refine SB.c ?_ ?_<;>intro _|exact zad)|with_reducible refine zac ?_|omega
        ·have e2:((d.getD k 0).toNat:Int) > 57:=by
          have:¬ (48≤(d.getD k 0).toNat∧(d.getD k 0).toNat≤57):=fun h=>hdg (by unfold isD zcU;rw [Bool.and_eq_true,decide_eq_true_eq,decide_eq_true_eq];omega)
          omega
         repeat' first|refine Va (fA6 zfX hlt hlt' hw e1 e2) ?_|(with_reducible first|refine SB.c ?_ ?_<;>intro _|exact zad)|with_reducible refine zac ?_|omega
      ·have hlt':¬ (k:Int)<d.length:=by omega
       have hkk:k=d.length:=by omega
       subst hkk
       rw [List.take_length] at hsm
       have hall2:d.all isD=true:=by
        rw [List.all_eq_true]
        have:=zd5 d d.length (Nat.le_refl _) hall
        rwa [List.take_length] at this
       by_cases hls:d.length<w.length
       ·have hls':(d.length:Int)<w.length:=by omega
        have hv:zaW w=(IntKind.i64.wrap (-(zba d:Int)),decide ((zba d:Int)≤9223372036854775808)):=by
         unfold zaW
         rw [hd,if_neg hc,if_neg (by rw [hall2];simp),if_pos hls]
         simp only [Prod.mk.injEq,true_and]
         exact decide_eq_decide.2 (by omega)
        have e7:IntKind.i64.wrap (IntKind.u64.wrap (0 - (zba d:Int)))=IntKind.i64.wrap (-(zba d:Int)):=by rw [Int.zero_sub];exact ziw (zba d) hsm
        rw [hv]
        repeat' first|refine Va (fA5 zfX hlt' hls' @List.take_length.{0} e7) ?_|(with_reducible first|refine SB.c ?_ ?_<;>intro _|exact zad)|with_reducible refine zac ?_|omega
       ·have hls':¬ (d.length:Int)<w.length:=by omega
        have hv:zaW w=(IntKind.i64.wrap (zba d:Int),decide ((zba d:Int)<9223372036854775808)):=by
         unfold zaW
         rw [hd,if_neg hc,if_neg (by rw [hall2];simp),if_neg hls]
         simp only [Prod.mk.injEq,true_and]
         exact decide_eq_decide.2 (by omega)
        rw [hv]
        repeat' first|refine Va (fA4 zfX hlt' hls' @List.take_length.{0}) ?_|(with_reducible first|refine SB.c ?_ ?_<;>intro _|exact zad)|with_reducible refine zac ?_|omega
 ·obtain ⟨d,hd⟩:∃ d,dgs w=d:=⟨_,rfl⟩
  have hsl:d=w:=by
   rw [←hd]
   unfold dgs
   rw [if_neg]
   intro e
   cases w with
   |nil=>simp at e
   |cons c r=>simp at e;exact h45 ⟨by simp,by simp [e]⟩
  by_cases hw0:0<w.length
  ·have hw1:(w.length:Int) > 0:=by omega
   have hb:=u8b (w.getD 0 0) 45
   simp only [UInt8.reduceToNat,Int.cast_ofNat_Int] at hb
   rw [show (w.getD 0 0==45)=false by simpa using fun e=>h45 ⟨hw0,e⟩] at hb
   subst hsl
   refine zap (fun _=>0) 0 zFi ?_
   by_cases hz:d.length=0
   ·have hv:zaW d=(0,false):=by
     unfold zaW
     rw [hd,if_pos (.inl (List.eq_nil_of_length_eq_zero hz))]
    have hz':(d.length:Int)=0:=by omega
    rw [hv]
    repeat' first|refine Va (fA6 zfX hw0 hz hz' hb hw1) ?_|(with_reducible first|refine SB.c ?_ ?_<;>intro _|exact zad)|with_reducible refine zac ?_|omega
   ·have hz':¬ (d.length:Int)=0:=by omega
    have hz2:((d.length:Int)==0)=false:=by simpa using hz'
    have hzp:0<d.length:=by omega
    by_cases h19:19<d.length
    ·have hv:zaW d=(0,false):=by
      unfold zaW
      rw [hd,if_pos (.inr (.inl h19))]
     have h19':(d.length:Int) > 19:=by omega
     rw [hv]
     repeat' first|refine Va (fA7 zfX hw0 hz' hz2 h19' hb hw1) ?_|(with_reducible first|refine SB.c ?_ ?_<;>intro _|exact zad)|with_reducible refine zac ?_|omega
    ·have h19':¬ (d.length:Int) > 19:=by omega
     have h48:=u8b (d.getD 0 0) 48
     simp only [UInt8.reduceToNat,Int.cast_ofNat_Int] at h48
     have hh:d.head?=some 48 ↔ d.getD 0 0=48:=by
      cases d with
      |nil=>simp at hzp
      |cons c r=>simp
     by_cases hl:d.getD 0 0=48∧(1<d.length∨1<d.length)
     ·have hv:zaW d=(0,false):=by
       unfold zaW
       rw [hd,if_pos (.inr (.inr ⟨hh.2 hl.1,hl.2⟩))]
      have hb1:(d.getD 0 0==48)=true:=by simpa using hl.1
      rw [hb1] at h48
      rw [hv]
      rcases Decidable.em (1<d.length) with hx|hx
      ·have hx':(d.length:Int) > 1:=by omega
       repeat' first|refine Va (zj4 zfX hw0 hz' hz2 hzp h19' h48 hx' hb hw1) ?_|(with_reducible first|refine SB.c ?_ ?_<;>intro _|exact zad)|with_reducible refine zac ?_|omega
      ·have hx':¬ (d.length:Int) > 1:=by omega
       have hy:(d.length:Int) > 1:=by omega
       repeat' first|refine Va (zfA zfX hw0 hz' hz2 hzp h19' h48 hx' hy hb hw1) ?_|(with_reducible first|refine SB.c ?_ ?_<;>intro _|exact zad)|with_reducible refine zac ?_|omega
     ·have hc:¬ (d=[]∨19<d.length∨(d.head?=some 48∧(1<d.length∨1<d.length))):=by
       rintro (e|e|⟨e1,e2⟩)
       ·rw [e] at hz;simp at hz
       ·exact h19 e
       ·exact hl ⟨hh.1 e1,e2⟩
      have hgo:∀ Q:Prop,((d.getD 0 0=48→(¬ (d.length:Int) > 1∧¬ (d.length:Int) > 1))):=by
       intro Q e
       refine ⟨fun h=>hl ⟨e,.inl (by omega)⟩,fun h=>hl ⟨e,.inr (by omega)⟩⟩
      have hgo:=hgo True
      have hlen:((d.length:Int)<d.length)=(d.length<d.length):=by simp
      rcases Decidable.em (d.getD 0 0=48) with he|he
      ·have hb1:(d.getD 0 0==48)=true:=by simpa using he
       rw [hb1] at h48
       have hx:=hgo he
       repeat' first|refine Va (zfA zfX hw0 hz' hz2 hzp h19' h48 hx.1 hx.2 hb hw1) ?_|(with_reducible first|refine SB.c ?_ ?_<;>intro _|exact zad)|with_reducible refine zac ?_|omega
       refine zaI (ι:={k:Nat // k≤d.length∧∀ j,j<k→isD (d.getD j 0)=true}) (fun i=>⟨(.pv (.str d)::.junk::.pv (.int .i64 0)::.pv (.bool false)::.pv (.str d)::.pv (.int .u64 (zba (d.take i.1)))::.pv (.int .i64 i.1)::jl 72 []),[]⟩) (fun i=>d.length - i.1) ⟨0,by omega,fun j hj=>absurd hj (Nat.not_lt_zero _)⟩ (WFe (by simp [kwf,List.take_zero,show zba []=0 from rfl]) (by simp [kwf,List.take_zero,show zba []=0 from rfl])) ?_
       rintro ⟨k,hk,hall⟩
       have hsm:=zcJ d k hk hall (by omega)
       by_cases hlt:k<d.length
       ·have hlt':(k:Int)<d.length:=by omega
        have hw:=zaQ k (by omega)
        by_cases hdg:isD (d.getD k 0)=true
        ·have hdl:=zcC hdg
         have e1:¬ ((d.getD k 0).toNat:Int)<48:=by omega
         have e2:¬ ((d.getD k 0).toNat:Int) > 57:=by omega
         have hall':∀ j,j<k+1→isD (d.getD j 0)=true:=fun j hj=>by
          rcases Nat.lt_or_ge j k with h|h
          ·exact hall j h
          ·rw [show j=k by omega];exact hdg
         have hsm':=zcJ d (k+1) (by omega) hall' (by omega)
         have hvt:=zg6 d k hlt
         obtain ⟨c,hcd⟩:∃ c,(d.getD k 0).toNat=c:=⟨_,rfl⟩
         rw [hcd] at hdl e1 e2 hvt
         have e3:IntKind.u64.wrap (10 * ((zba (d.take k):Nat):Int))=10 * ((zba (d.take k):Nat):Int):=IntWalk.u64_in _ ⟨by omega,by omega⟩
         have e4:IntKind.u8.wrap ((c:Int) - 48)=(c:Int) - 48:=IntWalk.u8_in _ ⟨by omega,by omega⟩
         have e5:IntKind.u64.wrap ((c:Int) - 48)=(c:Int) - 48:=IntWalk.u64_in _ ⟨by omega,by omega⟩
         have e6:IntKind.u64.wrap (10 * ((zba (d.take k):Nat):Int)+((c:Int) - 48))=((zba (d.take (k+1)):Nat):Int):=by rw [IntWalk.u64_in _ ⟨by omega,by omega⟩];omega
         repeat' first|refine Va (zfA zfX hlt hlt' hw e1 e2 e3 e4 e5 e6 hcd) ?_|(with_reducible first|refine SB.c ?_ ?_<;>intro _|exact zad)|with_reducible refine zac ?_|omega
         exact ⟨⟨k+1,by omega,hall'⟩,WFn,by show d.length - (k+1)<d.length - k;omega⟩
        ·have hv:zaW d=(0,false):=by
          unfold zaW
          rw [hd,if_neg hc,if_pos]
          rw [List.all_eq_false]
          refine ⟨d.getD k 0,?_,hdg⟩
          rw [List.getD_eq_getElem?_getD,List.getElem?_eq_getElem hlt]
          exact List.getElem_mem hlt
         rw [hv]
         by_cases e1:((d.getD k 0).toNat:Int)<48
         ·repeat' first|refine Va (fA5 zfX hlt hlt' hw e1) ?_|(with_reducible first|refine SB.c ?_ ?_<;>intro _|exact zad)|with_reducible refine zac ?_|omega
         ·have e2:((d.getD k 0).toNat:Int) > 57:=by
           have:¬ (48≤(d.getD k 0).toNat∧(d.getD k 0).toNat≤57):=fun h=>hdg (by unfold isD zcU;rw [Bool.and_eq_true,decide_eq_true_eq,decide_eq_true_eq];omega)
           omega
          repeat' first|refine Va (fA6 zfX hlt hlt' hw e1 e2) ?_|(with_reducible first|refine SB.c ?_ ?_<;>intro _|exact zad)|with_reducible refine zac ?_|omega
       ·have hlt':¬ (k:Int)<d.length:=by omega
        have hkk:k=d.length:=by omega
        subst hkk
        rw [List.take_length] at hsm
        have hall2:d.all isD=true:=by
         rw [List.all_eq_true]
         have:=zd5 d d.length (Nat.le_refl _) hall
         rwa [List.take_length] at this
        by_cases hls:d.length<d.length
        ·have hls':(d.length:Int)<d.length:=by omega
         have hv:zaW d=(IntKind.i64.wrap (-(zba d:Int)),decide ((zba d:Int)≤9223372036854775808)):=by
          unfold zaW
          rw [hd,if_neg hc,if_neg (by rw [hall2];simp),if_pos hls]
          simp only [Prod.mk.injEq,true_and]
          exact decide_eq_decide.2 (by omega)
         have e7:IntKind.i64.wrap (IntKind.u64.wrap (0 - (zba d:Int)))=IntKind.i64.wrap (-(zba d:Int)):=by rw [Int.zero_sub];exact ziw (zba d) hsm
         rw [hv]
         repeat' first|refine Va (fA5 zfX hlt' hls' @List.take_length.{0} e7) ?_|(with_reducible first|refine SB.c ?_ ?_<;>intro _|exact zad)|with_reducible refine zac ?_|omega
        ·have hls':¬ (d.length:Int)<d.length:=by omega
         have hv:zaW d=(IntKind.i64.wrap (zba d:Int),decide ((zba d:Int)<9223372036854775808)):=by
          unfold zaW
          rw [hd,if_neg hc,if_neg (by rw [hall2];simp),if_neg hls]
          simp only [Prod.mk.injEq,true_and]
          exact decide_eq_decide.2 (by omega)
         rw [hv]
         repeat' first|refine Va (fA4 zfX hlt' hls' @List.take_length.{0}) ?_|(with_reducible first|refine SB.c ?_ ?_<;>intro _|exact zad)|with_reducible refine zac ?_|omega
      ·have hb1:(d.getD 0 0==48)=false:=by simpa using he
       rw [hb1] at h48
       repeat' first|refine Va (fA9 zfX hw0 hz' hz2 hzp h19' h48 hb hw1) ?_|(with_reducible first|refine SB.c ?_ ?_<;>intro _|exact zad)|with_reducible refine zac ?_|omega
       refine zaI (ι:={k:Nat // k≤d.length∧∀ j,j<k→isD (d.getD j 0)=true}) (fun i=>⟨(.pv (.str d)::.junk::.pv (.int .i64 0)::.pv (.bool false)::.pv (.str d)::.pv (.int .u64 (zba (d.take i.1)))::.pv (.int .i64 i.1)::jl 72 []),[]⟩) (fun i=>d.length - i.1) ⟨0,by omega,fun j hj=>absurd hj (Nat.not_lt_zero _)⟩ (WFe (by simp [kwf,List.take_zero,show zba []=0 from rfl]) (by simp [kwf,List.take_zero,show zba []=0 from rfl])) ?_
       rintro ⟨k,hk,hall⟩
       have hsm:=zcJ d k hk hall (by omega)
       by_cases hlt:k<d.length
       ·have hlt':(k:Int)<d.length:=by omega
        have hw:=zaQ k (by omega)
        by_cases hdg:isD (d.getD k 0)=true
        ·have hdl:=zcC hdg
         have e1:¬ ((d.getD k 0).toNat:Int)<48:=by omega
         have e2:¬ ((d.getD k 0).toNat:Int) > 57:=by omega
         have hall':∀ j,j<k+1→isD (d.getD j 0)=true:=fun j hj=>by
          rcases Nat.lt_or_ge j k with h|h
          ·exact hall j h
          ·rw [show j=k by omega];exact hdg
         have hsm':=zcJ d (k+1) (by omega) hall' (by omega)
         have hvt:=zg6 d k hlt
         obtain ⟨c,hcd⟩:∃ c,(d.getD k 0).toNat=c:=⟨_,rfl⟩
         rw [hcd] at hdl e1 e2 hvt
         have e3:IntKind.u64.wrap (10 * ((zba (d.take k):Nat):Int))=10 * ((zba (d.take k):Nat):Int):=IntWalk.u64_in _ ⟨by omega,by omega⟩
         have e4:IntKind.u8.wrap ((c:Int) - 48)=(c:Int) - 48:=IntWalk.u8_in _ ⟨by omega,by omega⟩
         have e5:IntKind.u64.wrap ((c:Int) - 48)=(c:Int) - 48:=IntWalk.u64_in _ ⟨by omega,by omega⟩
         have e6:IntKind.u64.wrap (10 * ((zba (d.take k):Nat):Int)+((c:Int) - 48))=((zba (d.take (k+1)):Nat):Int):=by rw [IntWalk.u64_in _ ⟨by omega,by omega⟩];omega
         repeat' first|refine Va (zfA zfX hlt hlt' hw e1 e2 e3 e4 e5 e6 hcd) ?_|(with_reducible first|refine SB.c ?_ ?_<;>intro _|exact zad)|with_reducible refine zac ?_|omega
         exact ⟨⟨k+1,by omega,hall'⟩,WFn,by show d.length - (k+1)<d.length - k;omega⟩
        ·have hv:zaW d=(0,false):=by
          unfold zaW
          rw [hd,if_neg hc,if_pos]
          rw [List.all_eq_false]
          refine ⟨d.getD k 0,?_,hdg⟩
          rw [List.getD_eq_getElem?_getD,List.getElem?_eq_getElem hlt]
          exact List.getElem_mem hlt
         rw [hv]
         by_cases e1:((d.getD k 0).toNat:Int)<48
         ·repeat' first|refine Va (fA5 zfX hlt hlt' hw e1) ?_|(with_reducible first|refine SB.c ?_ ?_<;>intro _|exact zad)|with_reducible refine zac ?_|omega
         ·have e2:((d.getD k 0).toNat:Int) > 57:=by
           have:¬ (48≤(d.getD k 0).toNat∧(d.getD k 0).toNat≤57):=fun h=>hdg (by unfold isD zcU;rw [Bool.and_eq_true,decide_eq_true_eq,decide_eq_true_eq];omega)
           omega
          repeat' first|refine Va (fA6 zfX hlt hlt' hw e1 e2) ?_|(with_reducible first|refine SB.c ?_ ?_<;>intro _|exact zad)|with_reducible refine zac ?_|omega
       ·have hlt':¬ (k:Int)<d.length:=by omega
        have hkk:k=d.length:=by omega
        subst hkk
        rw [List.take_length] at hsm
        have hall2:d.all isD=true:=by
         rw [List.all_eq_true]
         have:=zd5 d d.length (Nat.le_refl _) hall
         rwa [List.take_length] at this
        by_cases hls:d.length<d.length
        ·have hls':(d.length:Int)<d.length:=by omega
         have hv:zaW d=(IntKind.i64.wrap (-(zba d:Int)),decide ((zba d:Int)≤9223372036854775808)):=by
          unfold zaW
          rw [hd,if_neg hc,if_neg (by rw [hall2];simp),if_pos hls]
          simp only [Prod.mk.injEq,true_and]
          exact decide_eq_decide.2 (by omega)
         have e7:IntKind.i64.wrap (IntKind.u64.wrap (0 - (zba d:Int)))=IntKind.i64.wrap (-(zba d:Int)):=by rw [Int.zero_sub];exact ziw (zba d) hsm
         rw [hv]
         repeat' first|refine Va (fA5 zfX hlt' hls' @List.take_length.{0} e7) ?_|(with_reducible first|refine SB.c ?_ ?_<;>intro _|exact zad)|with_reducible refine zac ?_|omega
        ·have hls':¬ (d.length:Int)<d.length:=by omega
         have hv:zaW d=(IntKind.i64.wrap (zba d:Int),decide ((zba d:Int)<9223372036854775808)):=by
          unfold zaW
          rw [hd,if_neg hc,if_neg (by rw [hall2];simp),if_neg hls]
          simp only [Prod.mk.injEq,true_and]
          exact decide_eq_decide.2 (by omega)
         rw [hv]
         repeat' first|refine Va (fA4 zfX hlt' hls' @List.take_length.{0}) ?_|(with_reducible first|refine SB.c ?_ ?_<;>intro _|exact zad)|with_reducible refine zac ?_|omega
  ·have hnil:w=[]:=List.eq_nil_of_length_eq_zero (by omega)
   subst hnil
   have hv:zaW []=(0,false):=by decide
   rw [hv]
   refine zap (fun _=>0) 0 zFi ?_
   repeat' first|refine Va zfX ?_|(with_reducible first|refine SB.c ?_ ?_<;>intro _|exact zad)|with_reducible refine zac ?_|omega
end Go.Proofs.YtfinhhblcdkpgaaGreatDoor
