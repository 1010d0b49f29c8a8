/- A part of the proof (part 4): see the last text. -/
import Derived.Test.YteakojhgmhmdkaaGreatDoorRb3
set_option linter.unusedVariables false
set_option linter.unusedSimpArgs false
set_option linter.unusedSectionVars false
open BitVec renaming ofInt→TH
open Bool renaming and_eq_false_iff→acp, and_eq_true→X7, and_true→acs, eq_iff_iff→aal, false_eq_true→ZV, false_or→aai, not_eq_true'→Z_, not_eq_true→abW, not_true→ab2, or_eq_false_iff→aaq, or_eq_true→X8, true_and→abh
open Classical renaming byContradiction→ack
open Decidable renaming not_not→abF
open Go.IntKind renaming wrap→Zb
open Int renaming add_mul_ediv_left→acj, ediv_le_self→acg, ediv_nonneg→acf, emod_add_mul_ediv→ab9, emod_lt_of_pos→acb, emod_nonneg→ab_, le_refl→ach, lt_trichotomy→acM, mul_add→acm, mul_comm→acd, mul_le_mul→aco, mul_nonneg→acn, ne_of_gt→aca, tdiv_eq_ediv_of_nonneg→ace, tdiv→ab8, tmod_eq_emod_of_nonneg→aci, toNat_natCast→Zc
open List renaming all_cons→aaM, all_nil→acr, any_eq_false→acC, any_eq_true→aaB, append_assoc→acI, append_nil→abQ, cons_append→ZY, drop_eq_nil_of_le→acO, drop_zero→abz, drop→acE, eq_nil_of_length_eq_zero→acN, ext_getElem?→acF, findIdx?→abO, flatMap_append→acH, flatMap_cons→abk, flatMap_singleton→acT, foldl_cons→YB, getElem?_append_left→ZE, getElem?_append_right→ZF, getElem?_cons_succ→abq, getElem?_cons_zero→abp, getElem?_drop→X4, getElem?_eq_getElem→YU, getElem?_eq_none→aah, getElem?_eq_some_iff→X1, getElem?_map→YT, getElem?_set_self→YW, getElem?_set→Ys, getElem?_take→X3, length_append→abI, length_cons→abJ, length_drop→abS, length_eq_zero_iff→Zo, length_replicate→acQ, length_set→aam, length_singleton→acq, length_take→ab3, length→acL, map_append→acA, map_cons→Zp, map_take→acy, mem_append→aag, mem_cons_of_mem→aao, mem_cons_self→aap, mem_cons→aan, mem_map→aaE, mem_of_getElem?→aaN, mem_singleton→acR, nil_append→acD, nodup_cons→acJ, range'→ZP, replicate_succ→Y6, replicate→XY, sizeOf_lt_of_mem→abV, take_add_one→abR, take_append_drop→acP, take_append_of_le_length→abL, take_length→abA, take_of_length_le→abM, take_set_of_le→acv, take_take→acz
open List.Sublist renaming nodup→acK
open Nat renaming add_mul→YA, add_zero→YD, le_of_lt→acB, le_refl→sl, le_succ→YH, le_trans→xl, lt_irrefl→acS, lt_of_lt_of_le→AH, lt_succ_self→aaP, min_eq_left→acx, mul_le_mul_right→Zg, mul_one→acu, ne_of_lt→YM, one_mul→abG, sub_self→acG, sub_zero→aaW, zero_add→YO, zero_le→Yz, zero_mul→abv
open Ne renaming symm→YR
open Option renaming map_none→acw, some→Yh
namespace Rb
open Go
abbrev qc(n:Int):Int:=Zb .u64 n
mutual
def AO:X→Int→Int
 | .mk kind n E op aV place bn,m=>if kind≥4 then B (B (m+B (j8 place+kB bn 0))+1)else B (m+B (j8 place+kB bn 0))
def kB:List X→Int→Int
 |[],m=>m
 |e::r,m=>kB r (AO e m)
def j8:aM→Int
 | .mk var aC=>HQ aC 0
def HQ:List K→Int→Int
 |[],m=>m
 |p::r,m=>HQ r (HR p m)
def HR:K→Int→Int
 | .mk field bb,m=>B (m+kB bb 0)
end
mutual
def AP:aw→Int→Int
 | .mk kind V E cg aV place bc be bw,m=>
  if 3≤kind∧kind≤7 then B (B (m+B (B (B (j8 place+kB bc 0)+nW be 0)+nW bw 0))+1)
  else B (m+B (B (B (j8 place+kB bc 0)+nW be 0)+nW bw 0))
def nW:List aw→Int→Int
 |[],m=>m
 |x::r,m=>nW r (AP x m)
end
structure mf where
 kind:Int
 site:Int
 V:Int
 spot:bp
 aV:Int
 op:Int
 d0:Int
 d1:Int
def dq:bp:=⟨0,0,0,false,0,0⟩
def r3:mf:=⟨0,0,0,dq,0,0,0,0⟩
def mf.cells(w:mf):List I:= M w.kind :: M w.site :: M w.V::(w.spot.cells++[M w.aV,M w.op,bY w.d0,bY w.d1])
structure RS where
 dG:List (Int×Int)
 aS:List (List UInt8×Int)
 pr:List Int
 V:Int
 fuel:Int
 fin:Int
 want:mf
 stop:Bool
 empty:Bool
def RS.get(s:RS)(x:List UInt8):Int:=match s.aS.find? (λl=>l.1==x)with|some l=>l.2|none=>0
def RS.put(s:RS)(x:List UInt8)(v:Int):RS:=match s.aS.findIdx? (λl=>l.1==x)with|some i=>{s with aS:=s.aS.set i (x,v)}|none=>s
def wR(a b:Int):Int:=Zb .u64 (TH 64 a &&& TH 64 b).toNat
def HS(a b:Int):Int:=Zb .u64 (TH 64 a ||| TH 64 b).toNat
def RR(a b:Int):Int:=Zb .u64 (TH 64 a ^^^ TH 64 b).toNat
def RT(a b:Int):Int:=Zb .u64 (TH 64 a &&& ~~~TH 64 b).toNat
def wS(a b:Int):Int:=Zb .u64 (a*2^(min b.toNat 64))
def HT(a b:Int):Int:=a.fdiv (2^(min b.toNat 64))
def wT(n:Int):Int:=if n<1 then 0 else if n≥64 then 18446744073709551615 else Zb .u64 (wS 1 n-1)
def HU(n:Int):Bool:=decide (n≥0)&&decide (n<64)
def RU(x a n:Int):Int:=if HU a=true then wR (HT x a) (wT n)else 0
def RV(x a n v:Int):Int:=if HU a=true then HS (RT x (wS (wT n) a)) (wS (wR v (wT n)) a)else x
def RW(op a b:Int):Int:=
 if op=1 then Zb .u64 (a+b)else if op=2 then Zb .u64 (a-b)else if op=3 then Zb .u64 (a*b)
 else if op=4 then wR a b else if op=5 then HS a b else if op=6 then RR a b
 else if op=7 then wS a (b.tmod 64)else if op=8 then HT a (b.tmod 64)
 else if(if op=9 then a==b else if op=10 then a != b else decide (a<b))=true then 1 else 0
def eH:List U→Int→List bp→Int×Int×List bp
 |[],at',acc=>(0,at',acc)
 | v::r,at',acc=>if(aZ v.type).2≠0 then((aZ v.type).2,0,[])else
  let x:=B (B (ab8 (B (B (at'+(aZ v.type).1.2)-1)) (aZ v.type).1.2)*(aZ v.type).1.2);let y:=if x>65536 then 65537 else x
  eH r (B (y+(aZ v.type).1.1)) (acc++[⟨B (65536+y),(aZ v.type).1.1,0,false,0,0⟩])
def mapM(vars:List U):Int×Int×List bp:=if(eH vars 0 []).1≠0 then((eH vars 0 []).1,0,[])else if(eH vars 0 []).2.1>65536 then(9,0,[])else eH vars 0 []
def gB:List K→Int→Int
 |[],n=>n
 |p::r,n=>gB r (B (n+p.bb.length))
def cH(t:T):List bp:=match dW t.packed t.kind ⟨0,1,[],0⟩ t.aD with|some p=>p.du|none=>[]
def iV:List K→T→bp→List Int→Option bp
 |[],_,sp,_=>some sp
 | p :: r,t,sp,idx=>
  if p.bb.length=1 then(match idx with
    |[]=>none
    | i::q=>if i≥qc t.bg then none else match t.aU with
     |[]=>none
     |e::_=>iV r e {sp with at_:=B (sp.at_+B (Zb .i64 i*(aZ e).1.1)),len:=(aZ e).1.1} q)
  else match t.aD.findIdx? (λf=>f.E==p.field)with
   |none=>none
   | some n=>match t.aD[n]?,(cH t)[n]? with
    |some f,some s=>iV r f.type {s with at_:=B (s.at_+sp.at_)} idx
    |_,_=>none
def d_(vars:List U)(x:aM)(idx:List Int):bp:=
 if(mapM vars).1≠0 then dq else if(bV vars x).1≠0 then dq else if ¬((bV vars x).2.kind=1∨(bV vars x).2.kind=2)then dq
 else if(idx.length:Int)≠gB x.aC 0 then dq else
 match vars.findIdx? (λv=>v.E==x.var)with
 |none=>dq
 | some n=>match vars[n]?,(mapM vars).2.2[n]? with
  | some v,some g=>match iV x.aC v.type {dq with at_:=g.at_,len:=g.len} idx with
   |some sp=>{sp with kind:=(bV vars x).2.kind}
   |none=>dq
  |_,_=>dq
def nX(vars:List U)(x:aM):Int:=if(bV vars x).1=0 then(bV vars x).2.bg else 0
section
variable(vars:List U)
def HV(sp:bp)(o v:Int):Int:=wR (if sp.bits=true then RV o sp.bit sp.aN v else v) (wT (B (8*sp.len)))
variable(c:Nat)
end
end Rb

namespace Rb
open Go
structure Bk where
 l:List (Int×Int)
 full:Bool
def cw:List (Int×Int)→List (Int×Int)
 |[]=>[]
 |[x]=>[x]
 |x::y::r=>if x=y then cw (y::r)else x::cw (y::r)
def Bk.tidy(b:Bk):Bk:=⟨cw (ef b.l),b.full||decide ((cw (ef b.l)).length>4096)⟩
def Bk.put(b:Bk)(s:Int×Int):Bk:=if b.full then b else⟨b.l++[s],false⟩
def Bk.add(b:Bk)(s:Int×Int):Bk:=if(b.put s).l.length>8192 then(b.put s).tidy else b.put s
def j_(step:Nat→Bk→Bk):Nat→Nat→Bk→Bk
 |0,_,b=>b
 |n+1,i,b=>if b.full then b else j_ step n (i+1) (step i b)
def iW(a:Int×Int)(b:Bk):Bk:=if a.2>0 then b.add a else b
mutual
def fk:T→Int→Bk→Bk
 | .mk kind size packed aD bg aU,at_,b=>
  if kind=1∨kind=2 then b.add (at_,size)
  else if kind=5 then(if(fi aU).1.1>0 then j_ (λi b=>nY aU (B (at_+B (i*(fi aU).1.1))) b) bg.toNat 0 b else b)
  else let r:=eM kind at_ aD (cH (.mk kind size packed aD bg aU)) (0,0) b
   iW r.1 r.2
def nY:List T→Int→Bk→Bk
 |[],_,b=>b
 |t::_,at_,b=>fk t at_ b
def qd:ay→Int→Bk→Bk
 | .mk E type bits aN,at_,b=>fk type at_ b
def eM(kind at_:Int):List ay→List bp→Int×Int→Bk→(Int×Int)×Bk
 |[],_,run,b=>(run,b)
 |_::_,[],run,b=>(run,b)
 | f::r,s::ss,run,b=>
  let e:=f.bits=false∨f.aN=0∨kind=4;let a:=if e then(0,0)else run
  let b1:=if e then iW run b else b
  if f.bits=false then eM kind at_ r ss a (qd f (B (s.at_+at_)) b1)
  else if a.2>0 then eM kind at_ r ss (a.1,B (B (B (s.at_+at_)+s.len)-a.1)) b1
  else if f.aN>0 then eM kind at_ r ss (B (s.at_+at_),s.len) b1
  else eM kind at_ r ss a b1
end
theorem RX(f:ay)(a:Int)(b:Bk):qd f a b=fk f.type a b:=by cases f;rfl
def eC(t:T):List (Int×Int)×Int:=
 if(aZ t).2≠0 then([],(aZ t).2)
 else if((fk t 0 ⟨[],false⟩).tidy).full then([],12)else(((fk t 0 ⟨[],false⟩).tidy).l,0)
end Rb

namespace Rb
open Go
theorem AQ(s:Int×Int):∀l:List (Int×Int),s∈cw l↔s∈l
 |[]=>by rw[cw]
 |[x]=>by rw[cw]
 | x :: y::r=>by
  rw[cw];split
  · rename_i h;subst h;rw[AQ s (x::r)];simp
  ·rw[aan,AQ s (y::r),←aan]
theorem RY(s:Int×Int)(l:List (Int×Int)):s∈ef l↔s∈l:=(List.mergeSort_perm l _).mem_iff
def Has(b c:Bk)(n:List (Int×Int)):Prop:=c.full=false→b.full=false∧∀s,s∈c.l↔s∈b.l∨s∈n
theorem Has.refl(b:Bk):Has b b []:=λh=>⟨h,λs=>by simp⟩
theorem Has.trans{b c d:Bk}{n m:List (Int×Int)}(h:Has b c n)(k:Has c d m):Has b d (n++m):=λa=>by obtain⟨k1,k2⟩:=k a;obtain⟨h1,e⟩:=h k1;exact⟨h1,λs=>by rw[k2,e,aag,or_assoc]⟩
theorem Bk.HW(b:Bk):Has b b.tidy []:=λh=>by have h1:(b.full||decide ((cw (ef b.l)).length>4096))=false:=h;rw[aaq]at h1;exact⟨h1.1,λs=>by show s∈cw (ef b.l)↔_;rw[AQ,RY];simp⟩
theorem Bk.HX(b:Bk)(s:Int×Int):Has b (b.put s) [s]:=λh=>by
 unfold Bk.put at h ⊢;by_cases hb:b.full=true
 ·rw[aa hb,hb]at h;cases h
 · rw[ae hb];exact⟨by simpa using hb,λx=>by show x∈b.l++[s]↔_;rw[aag]⟩
theorem Bk.HY(b:Bk)(s:Int×Int):Has b (b.add s) [s]:=by
 unfold Bk.add;split
 ·exact(b.HX s).trans (Bk.HW _)
 ·exact b.HX s
def hh(a:Int×Int):List (Int×Int):=if a.2>0 then [a]else []
theorem HZ(a:Int×Int)(b:Bk):Has b (iW a b) (hh a):=by
 unfold iW hh;split
 ·exact b.HY a
 ·exact Has.refl b
theorem H3{step:Nat→Bk→Bk}{g:Nat→List (Int×Int)}(hs:∀i b,Has b (step i b) (g i)):∀(n i:Nat)(b:Bk),Has b (j_ step n i b) ((ZP i n).flatMap g)
 |0,i,b=>Has.refl b
 | n + 1,i,b=>by
  rw[j_,List.range'_succ,abk];by_cases hb:b.full=true
  · rw[aa hb];intro h;rw[hb]at h;cases h
  · rw[ae hb];exact(hs i b).trans (H3 hs n (i+1) (step i b))
mutual
def aS:T→Int→List (Int×Int)
 | .mk kind size packed aD bg aU,a=>
  if kind=1∨kind=2 then [(a,size)]
  else if kind=5 then(if(fi aU).1.1>0 then(ZP 0 bg.toNat).flatMap λi:Nat=>qe aU (B (a+B ((i:Int)*(fi aU).1.1)))else [])
  else(fO kind a aD (cH (.mk kind size packed aD bg aU)) (0,0)).2++hh (fO kind a aD (cH (.mk kind size packed aD bg aU)) (0,0)).1
def qe:List T→Int→List (Int×Int)
 |[],_=>[]
 |t::_,a=>aS t a
def wU:ay→Int→List (Int×Int)
 | .mk E type bits aN,a=>aS type a
def fO(kind a:Int):List ay→List bp→Int×Int→(Int×Int)×List (Int×Int)
 |[],_,run=>(run,[])
 |_::_,[],run=>(run,[])
 | f::r,s::ss,run=>
  let e:=f.bits=false∨f.aN=0∨kind=4;let b:=if e then(0,0)else run
  let l1:=if e then hh run else []
  if f.bits=false then((fO kind a r ss b).1,l1++(wU f (B (s.at_+a))++(fO kind a r ss b).2))
  else if b.2>0 then((fO kind a r ss (b.1,B (B (B (s.at_+a)+s.len)-b.1))).1,l1++(fO kind a r ss (b.1,B (B (B (s.at_+a)+s.len)-b.1))).2)
  else if f.aN>0 then((fO kind a r ss (B (s.at_+a),s.len)).1,l1++(fO kind a r ss (B (s.at_+a),s.len)).2)
  else((fO kind a r ss b).1,l1++(fO kind a r ss b).2)
end
theorem RZ(f:ay)(a:Int):wU f a=aS f.type a:=by cases f;rfl
mutual
theorem AR:∀(t:T)(a:Int)(b:Bk),Has b (fk t a b) (aS t a)
 | .mk kind size packed aD bg aU,a,b=>by
  rw[fk,aS];split
  ·exact b.HY _
  · split
    · split
      ·exact H3 (λi b=>R0 aU (B (a+B ((i:Int)*(fi aU).1.1))) b) _ _ b
      ·exact Has.refl b
    · obtain⟨h1,d⟩:=r5 kind a aD (cH (.mk kind size packed aD bg aU)) (0,0) b;dsimp only;rw[h1];exact d.trans (HZ _ _)
theorem R0:∀(l:List T)(a:Int)(b:Bk),Has b (nY l a b) (qe l a)
 |[],a,b=>by rw[nY,qe];exact Has.refl b
 |t::_,a,b=>by rw[nY,qe];exact AR t a b
theorem R1:∀(f:ay)(a:Int)(b:Bk),Has b (qd f a b) (wU f a)
 | .mk E type bits aN,a,b=>by rw[qd,wU];exact AR type a b
theorem r5(kind a:Int):∀(l:List ay)(ss:List bp)(run:Int×Int)(b:Bk),(eM kind a l ss run b).1=(fO kind a l ss run).1∧Has b (eM kind a l ss run b).2 (fO kind a l ss run).2
 |[],_,run,b=>by rw[eM,fO];exact⟨rfl,Has.refl b⟩
 |_::_,[],run,b=>by rw[eM,fO];exact⟨rfl,Has.refl b⟩
 | f :: r,s::ss,run,b=>by
  rw[eM,fO];have h1:Has b (if f.bits=false∨f.aN=0∨kind=4 then iW run b else b) (if f.bits=false∨f.aN=0∨kind=4 then hh run else []):=by
   split
   ·exact HZ run b
   ·exact Has.refl b
  generalize (if f.bits=false∨f.aN=0∨kind=4 then iW run b else b)=b1 at *;generalize (if f.bits=false∨f.aN=0∨kind=4 then hh run else [])=l1 at *;generalize (if f.bits=false∨f.aN=0∨kind=4 then((0,0):Int×Int)else run)=c;split
  · obtain⟨k1,k2⟩:=r5 kind a r ss c (qd f (B (s.at_+a)) b1);exact⟨k1,h1.trans ((R1 f _ _).trans k2)⟩
  · split
    · obtain⟨k1,k2⟩:=r5 kind a r ss (c.1,B (B (B (s.at_+a)+s.len)-c.1)) b1;exact⟨k1,h1.trans k2⟩
    · split
      · obtain⟨k1,k2⟩:=r5 kind a r ss (B (s.at_+a),s.len) b1;exact⟨k1,h1.trans k2⟩
      · obtain⟨k1,k2⟩:=r5 kind a r ss c b1;exact⟨k1,h1.trans k2⟩
end
theorem H4{t:T}(h:(eC t).2=0)(s:Int×Int):s∈(eC t).1↔s∈aS t 0:=by
 unfold eC at h ⊢;split at h
 ·rename_i a;exact absurd h a
 · rename_i a;rw[ae a];split at h
   ·cases h
   · rename_i hf;rw[ae hf];have b:((fk t 0 ⟨[],false⟩).tidy).full=false:=by simpa using hf
     have:=((AR t 0 ⟨[],false⟩).trans (Bk.HW _)) b;rw[this.2 s];simp
end Rb

namespace Rb
open Go
variable{n step:Int}
def bM(n step:Int):Int:=(n+step-1)/step*step
theorem qf(h:0<step):bM n step%step=0:=by unfold bM;exact Int.mul_emod_left _ _
theorem hj(a:0<step):n≤bM n step∧bM n step≤n+step-1:=by unfold bM;have h1:=ab9 (n+step-1) step;have b:=ab_ (n+step-1) (aca a);have c:=acb (n+step-1) a;rw[acd]at h1;omega
theorem mR(b:0≤n)(c:n≤1000000000)(a:0<step)(d:step≤1000000):ca n step=bM n step:=by have hb:=hj (n:=n) a;unfold ca;rw[wrap_i64 (n:=n+step) (by omega) (by omega),wrap_i64 (n:=n+step-1) (by omega) (by omega),ace (by omega)];have e:0≤(n+step-1)/step:=acf (by omega) (by omega);have f:(n+step-1)/step≤n+step-1:=acg _ (by omega);rw[wrap_i64 (n:=(n+step-1)/step) (by omega) (by omega)];show Zb .i64 (bM n step)=_;exact bI
theorem H5{packed:Bool}:∀{l:List ay}{seen:List (List UInt8)},fJ packed seen l=0→∀f∈l,(f.bits=true→0≤f.aN∧f.aN≤8*f.type.size∧packed=false)∧(f.bits=false→f.aN=0)
 |[],_,_,f,hf=>by cases hf
 | g :: r, seen, h,f,hf=>by
  simp only[fJ]at h;have a:gK packed seen g=0:=by
   by_cases hz:gK packed seen g=0
   ·exact hz
   ·rw[aa hz]at h;exact absurd h hz
  rw[ae (by simpa using a)]at h;rcases aan.1 hf with rfl|hf
  · rw [nS] at a;split at a
    ·cases a
    · split at a
      ·cases a
      · split at a
        ·rename_i hz;exact absurd a hz
        · split at a
          ·cases a
          · rename_i b;split at a
            ·cases a
            · rename_i h9;refine⟨λhb=>?_,λhb=>?_⟩
              · have a1:¬f.aN<0:=λq=>h9 ⟨hb,.inl q⟩;have a2:¬8*f.type.size<f.aN:=λq=>h9 ⟨hb,.inr (.inl q)⟩;refine⟨by omega,by omega,?_⟩;cases packed
                ·rfl
                ·exact absurd (.inr ⟨hb,.inr rfl⟩) b
              · by_cases hw:f.aN=0
                ·exact hw
                ·exact absurd (.inl ⟨hb,hw⟩) b
  ·exact H5 h f hf
structure iX(p:PL)(n:Nat):Prop where
 b0:0≤p.bit
 b1:p.bit≤n*600000
 s0:0≤p.size
 s1:p.size≤n*75000
 a0:1≤p.bN
 a1:p.bN≤16
def wV(packed:Bool)(kind:Int)(p:PL)(f:ay)(g:Int×Int):PL:=
 let b0:=if kind=4 then 0 else p.bit
 let w:=eL packed f g.2;let r:Int×bp:=
  if f.bits=true then
   if f.aN=0 then(bM b0 (8*f.type.size),⟨bM b0 (8*f.type.size)/8,0,1,true,bM b0 (8*f.type.size)%8,0⟩)
   else
    let b:=if b0/(8*f.type.size)≠(b0+f.aN-1)/(8*f.type.size)then bM b0 (8*f.type.size)else b0
    (b+f.aN,⟨b/8,(b+f.aN-1)/8-b/8+1,1,true,b%8,f.aN⟩)
  else(8*(bM (bM b0 8/8) w+g.1),⟨bM (bM b0 8/8) w,g.1,f.type.kind,false,0,0⟩)
 ⟨max p.size (bM r.1 8/8),max p.bN w,p.du++[r.2],r.1⟩
theorem AU{packed:Bool}{kind:Int}{p:PL}{n:Nat}(hn:n≤32)(hp:iX p n){f:ay}{g:Int×Int}(s:0≤g.1)(t:g.1≤65536)(a0:1≤g.2)(a1:g.2≤16)(hb:f.bits=true→1≤f.type.size∧f.type.size≤8∧0≤f.aN∧f.aN≤8*f.type.size) :
  iu packed kind p f g=wV packed kind p f g∧iX (iu packed kind p f g) (n+1):=by
 obtain⟨b0,b1,s0,s1,u,AW⟩:=hp;have hB:∃b,(if kind=4 then(0:Int)else p.bit)=b∧0≤b∧b≤n*600000:=by
  split
  ·exact⟨0,rfl,ach _,by omega⟩
  ·exact⟨p.bit,rfl,b0,b1⟩
 obtain⟨b,l,c,c1⟩:=hB;have hW:∃w,eL packed f g.2=w∧1≤w∧w≤16:=by
  unfold eL;split
  ·exact⟨1,rfl,by omega,by omega⟩
  · split
    ·rename_i h;have:=hb h;exact⟨_,rfl,by omega,by omega⟩
    ·exact⟨_,rfl,a0,a1⟩
 obtain⟨w,m,w0,w1⟩:=hW;unfold iu wV;dsimp only;rw[l,m];have size:∀x:Int,0≤x→x≤(n+1)*600000→B ((ca x 8).tdiv 8)=bM x 8/8∧bM x 8/8≤(n+1)*75000∧0≤bM x 8/8:=by intro x i o;have hu:=hj (n:=x) (step:=8) (by decide);rw[mR i (by omega) (by decide) (by decide),ace (by omega)];have v:=qf (n:=x) (step:=8) (by decide);refine⟨bI,by omega,by omega⟩
 by_cases d:f.bits=true
 · obtain ⟨t0,t1,v0,v1⟩:=hb d;rw[aa d,aa d];have j:B (8*f.type.size)=8*f.type.size:=bI;have y:=hj (n:=b) (step:=8*f.type.size) (by omega);have k:ca b (8*f.type.size)=bM b (8*f.type.size):=mR c (by omega) (by omega) (by omega);unfold lv;dsimp only;by_cases hw:f.aN=0
   · rw[aa hw,aa hw];unfold ly;dsimp only;rw[j,k];obtain⟨e,z2,z3⟩:=size (bM b (8*f.type.size)) (by omega) (by omega);rw[e,ace (a:=bM b (8*f.type.size)) (by omega),aci (a:=bM b (8*f.type.size)) (by omega),show B (bM b (8*f.type.size)/8)=bM b (8*f.type.size)/8 from bI];exact⟨rfl,by show 0≤bM b (8*f.type.size);omega,by show bM b (8*f.type.size)≤_;push_cast;omega,by show 0≤max _ _;omega,by show max _ _≤_;push_cast;omega,by show 1≤max _ _;omega,by show max _ _≤_;omega⟩
   · rw [ae hw,ae hw];unfold ly;dsimp only;have q:hX {p with bN:=max p.bN w,bit:=b} f=if b/(8*f.type.size)≠(b+f.aN-1)/(8*f.type.size)then bM b (8*f.type.size)else b:=by
      unfold hX;dsimp only;rw[j,show B (b+f.aN)=b+f.aN from bI,show B (b+f.aN-1)=b+f.aN-1 from bI,ace c,ace (by omega),k];have z:0≤b/(8*f.type.size):=acf c (by omega);have A:b/(8*f.type.size)≤b:=acg _ c;have C:0≤(b+f.aN-1)/(8*f.type.size):=acf (by omega) (by omega);have D:(b+f.aN-1)/(8*f.type.size)≤b+f.aN-1:=acg _ (by omega);rw[show B (b/(8*f.type.size))=b/(8*f.type.size)from bI,show B ((b+f.aN-1)/(8*f.type.size))=(b+f.aN-1)/(8*f.type.size)from bI]
     rw[q];have r:∃x,(if b/(8*f.type.size)≠(b+f.aN-1)/(8*f.type.size)then bM b (8*f.type.size)else b)=x∧0≤x∧x≤b+64:=by
      split
      ·exact⟨_,rfl,by omega,by omega⟩
      ·exact⟨_,rfl,c,by omega⟩
     obtain⟨x,ex,i,o⟩:=r;rw[ex,show B (x+f.aN)=x+f.aN from bI,show B (x+f.aN-1)=x+f.aN-1 from bI];obtain⟨e,z2,z3⟩:=size (x+f.aN) (by omega) (by omega);rw[e,ace i,ace (by omega),aci i,show B (x/8)=x/8 from bI,show B ((x+f.aN-1)/8)=(x+f.aN-1)/8 from bI,show B ((x+f.aN-1)/8-x/8)=(x+f.aN-1)/8-x/8 from bI,show B ((x+f.aN-1)/8-x/8+1)=(x+f.aN-1)/8-x/8+1 from bI];exact⟨rfl,by show 0≤x+f.aN;omega,by show x+f.aN≤_;push_cast;omega,by show 0≤max _ _;omega,by show max _ _≤_;push_cast;omega,by show 1≤max _ _;omega,by show max _ _≤_;omega⟩
 · rw[ae d,ae d];unfold ly wK;dsimp only;have E:=hj (n:=b) (step:=8) (by decide);have F:=qf (n:=b) (step:=8) (by decide);rw[mR c (by omega) (by decide) (by decide),ace (a:=bM b 8) (by omega),show B (bM b 8/8)=bM b 8/8 from bI];have G:=hj (n:=bM b 8/8) (step:=w) (by omega);rw[mR (n:=bM b 8/8) (by omega) (by omega) (by omega) (by omega),show B (bM (bM b 8/8) w+g.1)=bM (bM b 8/8) w+g.1 from bI,show B (8*(bM (bM b 8/8) w+g.1))=8*(bM (bM b 8/8) w+g.1)from bI];obtain⟨e,z2,z3⟩:=size (8*(bM (bM b 8/8) w+g.1)) (by omega) (by omega);rw[e];exact⟨rfl,by show 0≤8*_;omega,by show 8*(bM (bM b 8/8) w+g.1)≤_;push_cast;omega,by show 0≤max _ _;omega,by show max _ _≤_;push_cast;omega,by show 1≤max _ _;omega,by show max _ _≤_;omega⟩
end Rb

namespace Rb
open Go
theorem H6{b w:Int}(c:0<w):bM b (8*w)=8*bM (bM b 8/8) w:=by
 unfold bM;have e1:(b+8-1)/8*8/8=(b+8-1)/8:=Int.mul_ediv_cancel _ (by decide);have a:(b+8-1)/8+w-1=(b+8*w-1)/8:=by
  have:b+8*w-1=(b+8-1)+8*(w-1):=by omega
  rw[this,acj _ _ (by decide)];omega
 rw[e1,a,Int.ediv_ediv_of_nonneg (by decide),Int.mul_left_comm]
theorem r6(b:Int):bM b 1=b:=by unfold bM;simp
def eT(packed:Bool)(kind:Int)(a:Int)(f:ay)(g:Int×Int):Int×Int×Int:=
 let b0:=if kind=4 then 0 else a
 if f.bits=true then
  (bM b0 (if f.aN=0∨b0%(8*f.type.size)+f.aN>8*f.type.size then 8*f.type.size else 1),f.aN,if packed=true∨f.aN=0 then 1 else g.2)
 else(bM b0 (if packed=true then 8 else 8*g.2),8*g.1,if packed=true then 1 else g.2)
def kC(f:ay)(x:Int×Int):bp:=if f.bits=true then⟨x.1/8,if x.2>0 then(x.1+x.2-1)/8-x.1/8+1 else 0,1,true,x.1%8,x.2⟩else⟨x.1/8,x.2/8,f.type.kind,false,0,0⟩
theorem R2{b n u:Int}(hb:0≤b)(hn:1≤n)(c:n≤u):b/u≠(b+n-1)/u↔b%u+n>u:=by
 have a:0<u:=by omega
 have h1:=ab9 b u;have d:=ab_ b (aca a);have f:=acb b a;have e:b+n-1=(b%u+n-1)+u*(b/u):=by omega
 rw[e,acj _ _ (aca a)];constructor
 · intro h;apply ack;intro hc;have:(b%u+n-1)/u=0:=Int.ediv_eq_zero_of_lt (by omega) (by omega);omega
 · intro h hc;have hz:(b%u+n-1)/u=0:=by omega
   have:=ab9 (b%u+n-1) u;have g:=acb (b%u+n-1) a;rw[hz]at this;omega
theorem AX{packed:Bool}{kind:Int}{p:PL}{n:Nat}(hp:iX p n){f:ay}{g:Int×Int}(a0:1≤g.2)(hb:f.bits=true→1≤f.type.size∧0≤f.aN∧f.aN≤8*f.type.size∧packed=false∧g.2=f.type.size) :
  wV packed kind p f g=⟨max p.size (bM ((eT packed kind p.bit f g).1+(eT packed kind p.bit f g).2.1) 8/8),max p.bN (eT packed kind p.bit f g).2.2,p.du++[kC f ((eT packed kind p.bit f g).1,(eT packed kind p.bit f g).2.1)],(eT packed kind p.bit f g).1+(eT packed kind p.bit f g).2.1⟩:=by
 obtain⟨b0,b1,s0,s1,l,AW⟩:=hp;have hB:∃b,(if kind=4 then(0:Int)else p.bit)=b∧0≤b:=by
  split
  ·exact⟨0,rfl,ach _⟩
  ·exact⟨p.bit,rfl,b0⟩
 obtain⟨b,h,i⟩:=hB;unfold wV eT kC;dsimp only;rw[h];by_cases a:f.bits=true
 · obtain ⟨t0,v0,v1,j,e⟩:=hb a;simp only[a,aY];unfold eL;by_cases hw:f.aN=0
   · simp only[hw,a,true_or,aY,or_true,and_self,Int.add_zero];simp
   · rw[ae hw];have hu:=R2 (u:=8*f.type.size) i (show 1≤f.aN by omega) v1;simp only[j,hw,a,ZV,false_or,bR,aY,and_false];have k:f.aN>0:=by omega
     rw[aa k];by_cases d:b%(8*f.type.size)+f.aN>8*f.type.size
     ·rw[aa (hu.2 d),aa d,e]
     ·rw[ae (λz=>d (hu.1 z)),ae d,r6,e]
 · have a:f.bits=false:=by simpa using a
   simp only[a,ZV,bR];unfold eL;simp only[a,ZV,false_and,or_false,bR];cases packed
   · simp only[ZV,bR];have c:=H6 (b:=b) (w:=g.2) (by omega);rw[c];have d1:8*bM (bM b 8/8) g.2/8=bM (bM b 8/8) g.2:=by omega
     have d2:8*g.1/8=g.1:=by omega
     rw[d1,d2,←acm]
   · simp only[aY];have c:=H6 (b:=b) (w:=1) (by decide);rw[Int.mul_one]at c;rw[c];have d1:8*bM (bM b 8/8) 1/8=bM (bM b 8/8) 1:=by omega
     have d2:8*g.1/8=g.1:=by omega
     rw[←c]at d1 ⊢;rw[r6]at d1 ⊢;have d3:8*(bM b 8/8)=bM b 8:=by have:=qf (n:=b) (step:=8) (by decide);omega
     rw[d2,←d3,←acm];have d4:bM (8*(bM b 8/8)/8) 1=bM b 8/8:=by rw[r6];omega
     simp
end Rb

namespace Rb
open Go
variable{t:T}{packed:Bool}
structure nZ where
 bit:Int
 end_:Int
 bN:Int
 first:List Int
 bits:List Int
def AY(packed:Bool)(kind:Int)(s:nZ)(f:ay)(g:Int×Int):nZ:=⟨(eT packed kind s.bit f g).1+(eT packed kind s.bit f g).2.1,max s.end_ ((eT packed kind s.bit f g).1+(eT packed kind s.bit f g).2.1),max s.bN (eT packed kind s.bit f g).2.2,s.first++[(eT packed kind s.bit f g).1],s.bits++[(eT packed kind s.bit f g).2.1]⟩
def wW(packed:Bool)(kind:Int)(s:nZ):List ay→Option nZ
 |[]=>some s
 |f::r=>if(A f.type).2=true then wW packed kind (AY packed kind s f (A f.type).1) r else none
def r7:List ay→List Int→List Int→List bp
 |f::r,a::x,b::y=>kC f (a,b)::r7 r x y
 |_,_,_=>[]
theorem H7:∀(fs:List ay)(x y:List Int)(f:ay)(a b:Int),x.length=fs.length→y.length=fs.length→r7 (fs++[f]) (x++[a]) (y++[b])=r7 fs x y++[kC f (a,b)]
 |[],[],[],f,a,b,_,_=>rfl
 | g::r,c::x,d::y,f,a,b,h1,e=>by simp only[ZY,r7];rw[H7 r x y f a b (by simpa using h1) (by simpa using e)]
structure n5(p:PL)(s:nZ)(fs:List ay):Prop where
 bit:s.bit=p.bit
 e0:0≤s.end_
 size:p.size=bM s.end_ 8/8
 bN:s.bN=p.bN
 l1:s.first.length=fs.length
 l2:s.bits.length=fs.length
 du:p.du=r7 fs s.first s.bits
theorem AZ(n:Int):bM n 8/8=(n+7)/8:=by unfold bM;omega
theorem R3{kind:Int}{p:PL}{s:nZ}{fs:List ay}{n:Nat}(hn:n≤32)(hp:iX p n)(h:n5 p s fs){f:ay}{g:Int×Int}(d:0≤g.1)(e:g.1≤65536)(a0:1≤g.2)(a1:g.2≤16)(hb:f.bits=true→1≤f.type.size∧f.type.size≤8∧0≤f.aN∧f.aN≤8*f.type.size∧packed=false∧g.2=f.type.size) :
  n5 (iu packed kind p f g) (AY packed kind s f g) (fs++[f])∧iX (iu packed kind p f g) (n+1):=by
 obtain⟨e1,a⟩:=AU (packed:=packed) (kind:=kind) hn hp d e a0 a1 (λq=>⟨(hb q).1,(hb q).2.1,(hb q).2.2.1,(hb q).2.2.2.1⟩);refine⟨?_,a⟩;have b:=AX (kind:=kind) hp (f:=f) (g:=g) a0 (λq=>⟨(hb q).1,(hb q).2.2.1,(hb q).2.2.2.1,(hb q).2.2.2.2.1,(hb q).2.2.2.2.2⟩);have c:=a.b0;rw[e1]at c;rw[e1,b];rw[b]at c;unfold AY;rw[h.bit];have hs:=h.size;have he:=h.e0;refine⟨rfl,?_,?_,?_,?_,?_,?_⟩
 ·show 0≤max _ _;omega
 · show max p.size _=bM (max _ _) 8/8;rw[hs,AZ,AZ,AZ];omega
 ·show max s.bN _=max p.bN _;rw[h.bN]
 ·show(s.first++[_]).length=(fs++[f]).length;simp[h.l1]
 ·show(s.bits++[_]).length=(fs++[f]).length;simp[h.l2]
 · show p.du++[_]=_;rw[h.du,H7 _ _ _ _ _ _ h.l1 h.l2]
def mS(packed:Bool)(f:ay):Prop:=(f.bits=true→f.type.kind=1∧1≤f.type.size∧f.type.size≤8∧0≤f.aN∧f.aN≤8*f.type.size∧packed=false)
theorem A0{l:List ay}{a:List (List UInt8)}(h:fJ packed a l=0):∀f∈l,mS packed f:=λf hf hb=>by obtain⟨b,c,d⟩:=wN h f hf hb;obtain⟨w1,w2,w3⟩:=(H5 h f hf).1 hb;exact⟨b,c,d,w1,w2,w3⟩
def qg(t:T):Prop:=(A t).2=true→0≤(A t).1.1∧(A t).1.1≤65536∧1≤(A t).1.2∧(A t).1.2≤16
theorem n_(h:t.kind=1∨t.kind=2):A t=((t.size,t.size),true):=by rw[lz,aa h]
theorem H8{packed:Bool}{kind:Int}:∀{l:List ay}{p:PL}{s:nZ}{fs:List ay}{n:Nat},n+l.length≤32→iX p n→n5 p s fs→(∀f∈l,mS packed f∧qg f.type) →
  (∀q,dW packed kind p l=some q→∃s',wW packed kind s l=some s'∧n5 q s' (fs++l)∧iX q (n+l.length))∧(dW packed kind p l=none→wW packed kind s l=none)
 | [],p,s,fs,n,hn,hp,h,hl=>by
  refine⟨λq a=>?_,λa=>?_⟩
  · simp only[dW,Yh.injEq]at a;subst a;exact⟨s,rfl,by simpa using h,hp⟩
  ·simp only[dW]at a;cases a
 | f :: r,p,s,fs,n,hn,hp,h,hl=>by
  obtain⟨o1,o2⟩:=hl f (aap ..);have b:n+1+r.length≤32:=by rw[abJ]at hn;omega
  simp only[dW,wW,qb];by_cases ht:(A f.type).2=true
  · rw [aa ht,aa ht];obtain⟨b1,b2,b3,c⟩:=o2 ht;obtain ⟨h1,d⟩:=R3 (packed:=packed) (kind:=kind) (by omega) hp h b1 b2 b3 c (λhb=>by
      obtain⟨e,z2,z3,z4,z5,i⟩:=o1 hb;exact⟨z2,z3,z4,z5,i,by rw[n_ (.inl e)]⟩)
    obtain⟨i1,i2⟩:=H8 (kind:=kind) b d h1 (λg j=>hl g (aao _ j));refine⟨λq a=>?_,i2⟩;obtain⟨s',k,m,o⟩:=i1 q a;refine⟨s',k,by simpa using m,?_⟩;rw[abJ,show n+(r.length+1)=n+1+r.length by omega];exact o
  · rw[ae ht,ae ht];exact⟨λq a=>(by cases a),λ_=>rfl⟩
theorem iX.zero:iX ⟨0,1,[],0⟩ 0:=⟨ach _,by simp,ach _,by simp,ach _,by decide⟩
theorem n5.zero:n5 ⟨0,1,[],0⟩ ⟨0,0,1,[],[]⟩ []:=⟨rfl,ach _,by decide,rfl,rfl,rfl,rfl⟩
theorem A1(h:c6 t=0)(a:t.kind=3∨t.kind=4):1≤t.aD.length∧t.aD.length≤32:=by
 rw[gA]at h;split at h
 ·cases h
 · rw[bC,bC,bC]at h;split at h
   ·cases h
   ·omega
theorem wX(h:c6 t=0)(a:t.kind=1∨t.kind=2):1≤t.size∧t.size≤16:=by
 rw[gA]at h;split at h
 ·cases h
 · have hp:fh t.size 8=true∨fh t.size 16=true:=by
     rcases a with h1|h1
     · rw[aa h1]at h;split at h
       ·exact .inl ‹_›
       ·cases h
     · rw[bC,aa h1]at h;split at h
       ·exact .inr ‹_›
       ·cases h
   rcases hp with hp|hp<;>(simp[fh]at hp;omega)
theorem R4(h:c6 t=0)(a:t.kind=5):1≤t.bg∧t.bg≤65536:=by
 rw[gA]at h;split at h
 ·cases h
 · rw[bC,bC]at h;split at h
   ·cases h
   ·omega
theorem A2:∀t:T,c6 t=0→qg t:=by
 refine T.ind λt d g hs=>?_;intro h;rcases nV hs with k|k|k|k
 ·have:=wX hs (.inl k);rw[n_ (.inl k)];dsimp only;omega
 ·have:=wX hs (.inr k);rw[n_ (.inr k)];dsimp only;omega
 · obtain⟨e,he,i⟩:=lu hs k;have hc:=R4 hs k;rw[lz,bC,aa k,he]at h ⊢;simp only[fi,X7,dQ]at h ⊢;obtain⟨b1,b2,b3,j⟩:=g e (by rw[he];simp) i h.1;have hm:0≤(A e).1.1*t.bg:=acn b1 (by omega);have m:(A e).1.1*t.bg≤65536*65536:=aco b2 hc.2 (by omega) (by decide);have hw:B ((A e).1.1*t.bg)=(A e).1.1*t.bg:=bI;have b:B ((A e).1.1*t.bg)≤65536:=of_decide_eq_true h.2;rw[hw]at b ⊢;exact⟨hm,b,b3,j⟩
 · have hk:t.kind=3∨t.kind=4:=k;have hl:=A1 hs hk;have c:=HL hs hk;rw[lz,bC,bC]at h ⊢;cases hp:dW t.packed t.kind ⟨0,1,[],0⟩ t.aD with
   |none=>rw[hp]at h;cases h
   | some p=>rw[hp]at h;dsimp only at h ⊢;obtain⟨s',o,q,a⟩:=(H8 (packed:=t.packed) (kind:=t.kind) (by omega) iX.zero n5.zero (λf hf=>⟨A0 c f hf,d f hf (rZ c f hf)⟩)).1 p hp;have hu:=hj (n:=p.size) (step:=p.bN) (by have:=a.a0;omega);have l:=mR (n:=p.size) (step:=p.bN) a.s0 (by have:=a.s1;omega) (by have:=a.a0;omega) (by have:=a.a1;omega);rw[l]at h ⊢;have:=a.s0;exact⟨by omega,by simpa using h,a.a0,a.a1⟩
end Rb

namespace Rb
open Go
variable{n0 sz len:Nat}{H H':Z}{x:I}{cells:List I}
def cC(n0:Nat)(H:Z)(sz:Nat)(x:I)(len:Nat)(cells:List I):Prop:=∃tk,x = .aq tk len cells∧cells.length=len*sz∧((tk = .nil∧len=0)∨tk = .full∨∃t,tk = .own t∧n0≤t∧At H t (.tok (len*sz) sz))
theorem cC.nil(n0:Nat)(H:Z)(sz:Nat):cC n0 H sz (.aq .nil 0 []) 0 []:=⟨.nil,rfl,by simp,.inl ⟨rfl,rfl⟩⟩
theorem cC.frame(h:cC n0 H sz x len cells)(k:∀t a b,At H t (.tok a b)→At H' t (.tok a b)):cC n0 H' sz x len cells:=by
 obtain⟨tk,c,hc,ht⟩:=h;refine⟨tk,c,hc,?_⟩;rcases ht with ht|ht|⟨t,h1,d,e⟩
 ·exact .inl ht
 ·exact .inr (.inl ht)
 ·exact .inr (.inr ⟨t,h1,d,k t _ _ e⟩)
def Left(n0:Nat)(H H':Z):Prop:=H.n≤H'.n∧∀i o,At H i o→(i<n0∨∀a b,o ≠ .tok a b)→At H' i o
theorem cC.app{n0 sz b len m:Nat}{x y:I}{cells news:List I}{K:ad}(h:cC n0 H sz x len cells)(c:n0≤H.n)(d:fe H sz y=some (m,news))(hn:news.length=m*sz)(hs:news.all I.scalar=true)(f:m≠0)
  (hb:(len+m)*b≤140737488355328) (hl:len+m≤9223372036854775807) (g:∀j H',cC n0 H' sz j (len+m) (cells++news)→Left n0 H H'→K j H'):au (cp H false sz b x y) K:=by
 obtain⟨tk,rfl,hc,l⟩:=h;have hlen:(cells++news).length=(len+m)*sz:=by simp[hc,hn,YA]
 have grow:∀tk:Tok,tk = .full∨(tk = .nil∧len=0)→cp H false sz b (.aq tk len cells) y=some (.aq (.own H.n) (len+m) (cells++news),H.push (.tok ((len+m)*sz) sz)):=by intro tk ht;simp only[cp,d,hs,not_true_eq_false,bR,ae f];rw[ae (by simp only[abF];exact⟨hc,hb,hl⟩)];rcases ht with rfl|⟨rfl,_⟩<;>rfl
 have fresh:K (.aq (.own H.n) (len+m) (cells++news)) (H.push (.tok ((len+m)*sz) sz)):=
  g _ _ ⟨_,rfl,hlen,.inr (.inr ⟨H.n,rfl,c,At.new H _⟩)⟩ ⟨YH _,λi o h _=>h.push _⟩
 rcases l with ht|ht|⟨t,rfl,h1,k⟩
 ·exact⟨_,_,grow tk (.inr ht),fresh⟩
 ·exact⟨_,_,grow tk (.inl ht),fresh⟩
 · refine ⟨.aq (.own H.n) (len+m) (cells++news),(H.set t .gone).push (.tok ((len+m)*sz) sz),?_,g _ _ ⟨_,rfl,hlen,.inr (.inr ⟨H.n,rfl,c,At.new (H.set t .gone) _⟩)⟩ ⟨YH _,λi o hi a=>(hi.bZ (λe=>?_) _).push _⟩⟩
   · simp only[cp,d,hs,not_true_eq_false,bR,ae f];rw[ae (by simp only[abF];exact⟨hc,hb,hl⟩)];simp[k.2]
   · subst e;rcases a with a|a
     ·omega
     ·exact a _ _ (hi.2.symm.trans k.2)
theorem Left.row{i:Nat}{cs:List I}(k:Left n0 H H')(h:At H i (.row cs)):At H' i (.row cs):=k.2 _ _ h (.inr λ_ _ e=>by cases e)
end Rb

namespace Rb
open Go
def b5(vars:List U)(s:ba)(loc:I):List I:=[av U.cells vars,loc,M s.lets,M s.V,M s.lB,M s.bH]
def b7(id:Nat)(H H':Z):Prop:=H.n≤H'.n∧∀i o,i≠id→At H i o→At H' i o
theorem b7.refl(id:Nat)(H:Z):b7 id H H:=⟨sl _,λ_ _ _ h=>h⟩
theorem b7.trans{id:Nat}{a b c:Z}(h:b7 id a b)(k:b7 id b c):b7 id a c:=⟨xl h.1 k.1,λi o hi d=>k.2 i o hi (h.2 i o hi d)⟩
theorem b7.push(id:Nat)(H:Z)(x:bL):b7 id H (H.push x):=⟨YH _,λi o _ h=>h.push x⟩
theorem b7.set(id:Nat)(H:Z)(x:bL):b7 id H (H.set id x):=⟨sl _,λi o hi h=>h.bZ hi x⟩
def gh(H:Z)(id:Nat)(loc:I)(l:List (List UInt8)):Prop:=(loc = aQ∧l=[])∨∃j cs,loc = .row j 0 l.length 1∧j≠id∧At H j (.row cs)∧l.length≤cs.length∧cs.take l.length=l.map .str
theorem gh.aI{H H':Z}{id:Nat}{loc:I}{l:List (List UInt8)}(h:gh H id loc l)(k:b7 id H H'):gh H' id loc l:=by
 rcases h with h|⟨j,cs,h1,a,b,c,d⟩
 ·exact .inl h
 ·exact .inr ⟨j,cs,h1,a,k.2 j _ a b,c,d⟩
def dH(a b:ba):Prop:=b.g=a.g∧b.lets=a.lets
theorem dH.refl(a:ba):dH a a:=⟨rfl,rfl⟩
theorem dH.trans{a b c:ba}(h:dH a b)(k:dH b c):dH a c:=⟨k.1.trans h.1,k.2.trans h.2⟩
theorem eI(s:ba)(a:Bool)(e:Int):dH s (s.cG a e):=by
 unfold ba.cG;split
 ·exact⟨rfl,rfl⟩
 ·exact dH.refl s
theorem H9(s:ba)(d:Int)(e:X):dH s (eA s d e):=(eI _ _ _).trans ((eI _ _ _).trans (eI _ _ _))
theorem A3(s:ba)(d:Int)(x:aw):dH s (gd s d x):=(eI _ _ _).trans ((eI _ _ _).trans (eI _ _ _))
section
variable(vars:List U)
theorem R5(s:ba)(k:Int)(x:aM):dH s (j6 vars s k x):=(eI _ _ _).trans (eI _ _ _)
mutual
theorem wY:∀(e:X)(s:ba)(d:Int),dH s (lC vars s d e)
 | .mk kind n E op aV place bn,s,d=>by
  have a:=H9 s d (.mk kind n E op aV place bn);rw[lC];split
  ·exact a
  · have h1:dH s (if kind=2 then(eA s d (.mk kind n E op aV place bn)).cG ((eA s d (.mk kind n E op aV place bn)).has E) 6 else eA s d (.mk kind n E op aV place bn)):=by
      split
      ·exact a.trans (eI _ _ _)
      ·exact a
    refine dH.trans ?_ (wZ bn _ d);split
    ·exact h1.trans (A4 place _ _ d)
    ·exact h1
theorem wZ:∀(l:List X)(s:ba)(d:Int),dH s (eB vars s d l)
 |[],s,d=>by rw[eB];exact dH.refl s
 | e::r,s,d=>by
  rw[eB];refine dH.trans ?_ (wZ r _ d);split
  ·exact dH.refl s
  ·exact wY e s _
theorem A4:∀(x:aM)(s:ba)(k d:Int),dH s (j7 vars s k d x)
 | .mk var aC,s,k,d=>by
  rw[j7];split
  ·exact dH.refl s
  ·exact(R5 vars s k _).trans (H_ aC _ d)
theorem H_:∀(l:List K)(s:ba)(d:Int),dH s (hg vars s d l)
 |[],s,d=>by rw[hg];exact dH.refl s
 |p::r,s,d=>by rw[hg];exact(R6 p s d).trans (H_ r _ d)
theorem R6:∀(p:K)(s:ba)(d:Int),dH s (mP vars s d p)
 | .mk field bb,s,d=>by rw[mP];exact Ia bb s d
theorem Ia:∀(l:List X)(s:ba)(d:Int),dH s (jH vars s d l)
 |[],s,d=>by rw[jH];exact dH.refl s
 |e::r,s,d=>by rw[jH];exact(wY e s _).trans (Ia r _ d)
end
end
theorem gh.still{H:Z}{id:Nat}{loc:I}{a b:ba}(h:gh H id loc a.g)(k:dH a b):gh H id loc b.g:=by rw[k.1];exact h
section
variable{Φ:aj}{H:Z}{Q:ad}{id:Nat}{vars:List U}{s:ba}{loc:I}
theorem oa(a:At H id (.row (b5 vars s loc)))(hQ:Q (.bool (s.bH != 0)) H):S.f65 Φ (.ptr id 0) H Q:=by unfold S.f65;simp only[aX,W,D,YO];rw[a.load,show bT (b5 vars s loc) (4+1) 1 false=some (M s.bH)from rfl];simp only[D,dZ];exact hQ
theorem ho(hT:Cl Φ S.bu){a:Bool}{e:Int}(c:At H id (.row (b5 vars s loc)))(hQ:∀H',b7 id H H'→At H' id (.row (b5 vars (s.cG a e) loc))→Q (.ar []) H') :
  Φ 140 [.ptr id 0,.bool a,M e] H Q:=by
 refine S.PW hT ?_;unfold S.f140;have k1:∀b:Bool,(b=true↔a=false∧s.bH=0)→N (S.vu Φ (.ptr id 0) (M e) Q) [.bool b] H:=by
  intro b hb;simp only[aR,S.vu,aE,aB,aX,W,YO,D];apply aF<;>intro h
  · rw[c.load,show bT (b5 vars s loc) 3 1 false=some (M s.V)from rfl];simp only[D];rw[show bm [J,J] [(0,1,M s.V),(1,1,M e)]=some (.agg [M s.V,M e])from rfl];simp only[D];rw[c.store,aa ⟨rfl,rfl,rfl,by simp[b5]⟩];simp only[D];refine hQ _ (b7.set id H _) ?_;have:s.cG a e={s with lB:=s.V,bH:=e}:=by unfold ba.cG;rw[aa (hb.1 h)]
    rw[this];exact c.set _
  · refine hQ H (b7.refl _ _) ?_;have:s.cG a e=s:=by unfold ba.cG;rw[ae λx=>h (hb.2 x)]
    rw[this];exact c
 simp only[dS,D,cD];apply aF<;>intro h
 · refine S.nN hT (oa c ?_);simp only[dS,D];refine k1 _ ?_;simp only[Z_]at h;simp[h]
 · refine k1 _ ?_;simp only[Z_,Bool.not_eq_false]at h;simp[h]
theorem R7{a:I}{xs:List (List UInt8)}{t:List UInt8}(d:bo false a=some (M xs.length))(e:∀(i:Nat) x,xs[i]?=some x→∃p,aO none 1 a (M i)=some p∧O H 1 false p=some (.str x))(hb:xs.length≤9223372036854775807)
  (hQ:Q (M (fI (xs.findIdx? λx=>t==x))) H):S.f188 Φ a (.str t) H Q:=by
 unfold S.f188;rw[d];simp only[D];have main:∀(b:List (List UInt8)) (i:Nat),xs.drop i=b→Q (M (fI ((b.findIdx? λx=>t==x).map (·+ i)))) H→aA (S.vV Φ a (.str t) (M xs.length) Q) ([M i],H):=by
  intro b;induction b with
  | nil=>intro i hi c;have hle:=ek hi;refine aA.step ?_;simp only[S.vV,aE,bD,D,aB];rw[ee];simpa[fI]using c
  | cons y b f=>
   intro i hi c;obtain⟨l,g,h⟩:=ed hi;obtain⟨p,h1,j⟩:=e i y g;refine aA.step ?_;simp only[S.vV,aE,bD,D,aB];rw[dU,h1];simp only[D];rw[j];simp only[D,jj,aB];rw[List.findIdx?_cons]at c;by_cases he:(t==y)=true
   · rw[aa he];rw[aa he]at c;simpa[fI]using c
   · rw [ae he];rw[ae he]at c;simp only[b4,D];rw[bI,iT i];refine f (i+1) h ?_;have:(abO (λx=>t==x) b).map (·+ (i+1))=((abO (λx=>t==x) b).map (·+ 1)).map (·+ i):=by
      rw[Option.map_map];congr 1;funext k;simp only[Function.comp];omega
     rw[this];exact c
 refine main xs 0 rfl ?_;simpa using hQ
theorem A5(hT:Cl Φ S.bu){a:I}{xs:List (List UInt8)}{t:List UInt8}(b:bo false a=some (M xs.length))(c:∀(i:Nat) x,xs[i]?=some x→∃p,aO none 1 a (M i)=some p∧O H 1 false p=some (.str x))(hb:xs.length≤9223372036854775807)
  (hQ:Q (.bool (xs.any λx=>t==x)) H):Φ 138 [a,.str t] H Q:=by
 refine S.PV hT ?_;unfold S.f138;refine S.Qp hT (R7 b c hb ?_);simp only[f_,D,rY];exact hQ
theorem r8(hT:Cl Φ S.bu){x:List UInt8}(b:At H id (.row (b5 vars s loc)))(c:gh H id loc s.g)(hb:s.g.length≤1000)(hQ:Q (.bool (s.has x)) H):Φ 143 [.ptr id 0,.str x] H Q:=by
 refine S.PZ hT ?_;unfold S.f143;simp only[aX,W,D,YO];rw[b.load,show bT (b5 vars s loc) 1 1 false=some loc from rfl];simp only[D];rcases c with⟨rfl,h⟩|⟨j,cs,rfl,n,d,o,f⟩
 · unfold ba.has at hQ;rw[h]at hQ;exact A5 hT (xs:=[]) rfl (λi x k=>by cases k) (by simp) hQ
 · refine A5 hT (xs:=s.g) rfl (λi y a=>?_) (by omega) hQ;have m:=(X1.1 a).1;refine⟨.ptr j i,?_,?_⟩
   · simp only[aO];rw[aa ⟨by omega,by omega⟩];simp
   · rw [d.load];unfold bT;rw[cY];have e:cs[i]?=some (.str y):=by
      have:=congrArg (λl=>l[i]?) f;simp only[X3,YT,a,aa m,Option.map_some]at this;exact this
     simp[e]
end
end Rb

namespace Rb
open Go
variable{k:Int}{b:Bool}{A B:Prop}
section
variable{Φ:aj}{H:Z}{Q:ad}
theorem R8{k o:Int}(hQ:Q (.bool (iw k o)) H):S.f142 Φ (M k) (M o) H Q:=by
 have e:∀b:Bool,b=iw k o→Q (.bool b) H:=λb h=>by rw[h];exact hQ
 simp only[S.f142,S.zP,S.zQ,S.Gb,S.vv,S.zR,S.zS,aR,aE,cJ,f_,ji,D,aB,cD,cv,ZV,bR,aY]
 repeat' (apply aF<;>intro h)
 all_goals (refine e _ ?_;simp only[bG,dQ,ge_iff_le,beq_eq_false_iff_ne,ne_eq]at *;first|(subst_vars;simp[iw];done)|(simp_all [iw];done)|(simp_all [iw];omega)|skip)
theorem Ib{x:aM}(hQ:Q (.bool (kA x)) H):S.f192 Φ (.agg x.cells) H Q:=by
 unfold S.f192;simp only[Ay,aP,Az,D,HB,AA,cO,jj,cJ,cD];unfold kA at hQ;apply aF<;>intro h
 · rw[h]at hQ;have e:((x.aC.length:Int)==0)=(x.aC.length==0):=by rw[aal];simp
   rw[e];simpa using hQ
 · simp only[abW]at h;rw[h]at hQ;exact hQ
theorem R9{t:T}(hQ:Q (.bool (j5 k t)) H):S.f193 Φ (M k) (.agg t.cells) H Q:=by
 have e:∀b:Bool,b=j5 k t→Q (.bool b) H:=λb h=>by rw[h];exact hQ
 simp only[S.f193,S.GO,S.z_,S.Aa,gz,aP,dV,D,ky,p7,aR,aE,cJ,ji,aB,cD]
 repeat' (apply aF<;>intro h)
 all_goals (refine e _ ?_;unfold j5;simp only[bG]at *;first|(exfalso;omega)|(subst_vars;simp[*];done)|(simp[*];done)|(subst_vars;simp_all;done)|skip)
def kD(k:Int):List I:=if 1≤k∧k≤10 then [.bool (eG k).1,.bool (eG k).2.1,.bool (eG k).2.2.1,M (eG k).2.2.2.1,.bool (eG k).2.2.2.2.1,.bool (eG k).2.2.2.2.2]else [P,P,P,J,P,P]
theorem R_(k:Int):(kD k).length=6:=by unfold kD;split<;>rfl
theorem Sa(k:Int):(kD k).all I.scalar=true:=by unfold kD;split<;>rfl
theorem Sb(hQ:∀H',Q (.ar [.agg (kD k),.bool (decide (1≤k)&&decide (k≤10))]) H'):S.f191 Φ (M k) H Q:=by
 have fin:∀(cs:List I)(b:Bool) H',kD k=cs→(decide (1≤k)&&decide (k≤10))=b→Q (.ar [.agg cs,.bool b]) H':=λcs b H' h1 a=>by rw[←h1,←a];exact hQ H'
 clear hQ;simp only[S.f191,S.GL,S.z7,S.z8,aP,aJ,aY,D,aR,aE,cJ,aB]
 repeat' (apply aF<;>intro h)
 all_goals (refine⟨_,rfl,_,cM _ _ _ 6 rfl rfl rfl,_,by rw[eK];exact gJ rfl,fin _ _ _ ?_ ?_⟩)
 all_goals (simp only[bG]at *;first|(exfalso;omega)|(subst_vars;rfl)|skip)
 ·unfold kD;rw[bC]
 ·rw[acp,decide_eq_false_iff_not,decide_eq_false_iff_not];omega
theorem r9(e:X)(H:Z):aK H false 8 (.agg e.cells)=some (.af e.cells,H):=by unfold aK;rw[aa ⟨rfl,e.len⟩];rfl
theorem lH(e:X)(i:Nat):W i (.af e.cells)=some (.af (e.cells.drop i)):=rfl
theorem lI(e:X)(H:Z):O H 1 false (.af (e.cells.drop 0))=some (M e.kind):=by rw[X.bF,aM.bF];rfl
theorem Ic(e:X)(H:Z):O H 1 false (.af (e.cells.drop 1))=some (bY e.n):=by rw[X.bF,aM.bF];rfl
theorem A6(e:X)(H:Z):O H 1 false (.af (e.cells.drop 2))=some (.str e.E):=by rw[X.bF,aM.bF];rfl
theorem Ie(e:X)(H:Z):O H 1 false (.af (e.cells.drop 3))=some (M e.op):=by rw[X.bF,aM.bF];rfl
theorem Ig(e:X)(H:Z):O H 1 false (.af (e.cells.drop 4))=some (M e.aV):=by rw[X.bF,aM.bF];rfl
theorem r_(e:X)(H:Z):O H 2 true (.af (e.cells.drop 5))=some (.agg e.place.cells):=by rw[X.bF,aM.bF];rfl
theorem w4(e:X)(H:Z):O H 1 false (.af (e.cells.drop 7))=some (av X.cells e.bn):=by rw[X.bF,aM.bF];rfl
theorem A7(e:X)(H:Z):O H 8 true (.af e.cells)=some (.agg e.cells):=gJ e.len
theorem ob(e:aw)(H:Z):aK H false 10 (.agg e.cells)=some (.af e.cells,H):=by unfold aK;rw[aa ⟨rfl,e.len⟩];rfl
theorem hq(e:aw)(i:Nat):W i (.af e.cells)=some (.af (e.cells.drop i)):=rfl
theorem lJ(e:aw)(H:Z):O H 1 false (.af (e.cells.drop 0))=some (M e.kind):=by rw[aw.bF,aM.bF];rfl
theorem A8(e:aw)(H:Z):O H 1 false (.af (e.cells.drop 1))=some (M e.V):=by rw[aw.bF,aM.bF];rfl
theorem mT(e:aw)(H:Z):O H 1 false (.af (e.cells.drop 2))=some (.str e.E):=by rw[aw.bF,aM.bF];rfl
theorem A9(e:aw)(H:Z):O H 1 false (.af (e.cells.drop 3))=some (.str e.cg):=by rw[aw.bF,aM.bF];rfl
theorem w5(e:aw)(H:Z):O H 1 false (.af (e.cells.drop 4))=some (M e.aV):=by rw[aw.bF,aM.bF];rfl
theorem oc(e:aw)(H:Z):O H 2 true (.af (e.cells.drop 5))=some (.agg e.place.cells):=by rw[aw.bF,aM.bF];rfl
theorem mU(e:aw)(H:Z):O H 1 false (.af (e.cells.drop 7))=some (av X.cells e.bc):=by rw[aw.bF,aM.bF];rfl
theorem w6(e:aw)(H:Z):O H 1 false (.af (e.cells.drop 8))=some (av aw.cells e.be):=by rw[aw.bF,aM.bF];rfl
theorem A_(e:aw)(H:Z):O H 1 false (.af (e.cells.drop 9))=some (av aw.cells e.bw):=by rw[aw.bF,aM.bF];rfl
theorem Ih(e:aw)(H:Z):O H 10 true (.af e.cells)=some (.agg e.cells):=gJ e.len
theorem Ii{α:Type}(l:List α):((l.length:Int)==0)=(l.length==0):=by rw[aal];simp
theorem ite_bool(a:b=true→A)(c:b=false→B):if b=true then A else B:=aF a λh=>c (by simpa using h)
theorem iz(a:b=false→A)(c:b=true→B):if b=false then A else B:=aF a λh=>c (by simpa using h)
theorem Sc(hT:Cl Φ S.bu){e:X}(hQ:Q (.bool (hZ e)) H):S.f215 Φ (.agg e.cells) H Q:=by
 have fin:∀b:Bool,b=hZ e→Q (.bool b) H:=λb h=>by rw[h];exact hQ
 clear hQ;have j : (decide (1≤e.kind)&&decide (e.kind≤8))=true→S.mM Φ (.af e.cells) Q [M (iy e.kind).1,.bool (iy e.kind).2] H:=by
  intro hk;unfold hZ at fin;rw[hk]at fin;simp only[abh]at fin;generalize k:iy e.kind=a at fin ⊢;have k1:∀b:Bool,(∀c,c=(b&&((e.bn.length:Int)==a.1))→Q (.bool c) H)→N (S.rU Φ (.af e.cells) [M a.1,.bool a.2] Q) [.bool b] H:=by
   intro b hb;simp only[aR,S.rU,aE,cW,cD,lH,w4,cO,cJ,D];cases b
   ·exact hb _ rfl
   ·exact hb _ rfl
  have k2:∀b:Bool,(∀c,c=((b&&(a.2||kA e.place))&&((e.bn.length:Int)==a.1))→Q (.bool c) H)→N (S.ll Φ (.af e.cells) [M a.1,.bool a.2] Q) [.bool b] H:=by
   intro b hb;simp only[aR,S.ll,aE,cW,cD,cv,lH,r_,D];cases b
   ·exact k1 _ λc hc=>hb c (by rw[hc];rfl)
   · rw [aa rfl];apply iz<;>intro h
     · refine S.Ha hT (Ib ?_);exact k1 _ λc hc=>hb c (by rw[hc,h];rfl)
     ·exact k1 _ λc hc=>hb c (by rw[hc,h];rfl)
  have d : ∀b:Bool,(∀c,c=(((b&&(if e.kind=3 then decide (1≤e.op)&&decide (e.op≤11)else e.op==0))&&(a.2||kA e.place))&&((e.bn.length:Int)==a.1))→Q (.bool c) H) →
    N (S.rV Φ (.af e.cells) (.bool (e.kind==3)) [M a.1,.bool a.2] Q) [.bool b] H:=by
   intro b hb;simp only[aR,S.rV,aE,cW,cD,cv,lH,Ie,D,f_,ji,cJ,dS];cases b
   ·exact k2 _ λc hc=>hb c (by rw[hc];rfl)
   · rw [aa rfl];apply ite_bool<;>intro h
     · rw [aa (by simpa using h)]at hb;apply ite_bool<;>intro h1
       · apply iz<;>intro f
         · rw[h,el];exact k2 _ λc hc=>hb c (by rw[hc];simp only[ge_iff_le]at h1;rw[h1,f];rfl)
         ·exact k2 _ λc hc=>hb c (by rw[hc];simp only[ge_iff_le]at h1;rw[h1,f];rfl)
       · rw[h,el];exact k2 _ λc hc=>hb c (by rw[hc];simp only[ge_iff_le]at h1;rw[h1];rfl)
     · rw[ae (by simpa using h)]at hb;rw[h,kE];exact k2 _ λc hc=>hb c (by rw[hc];rfl)
  have i:∀b:Bool,(∀c,c=((((b&&(e.kind==2||e.E==[]))&&(if e.kind=3 then decide (1≤e.op)&&decide (e.op≤11)else e.op==0))&&(a.2||kA e.place))&&((e.bn.length:Int)==a.1))→Q (.bool c) H) →
    N (S.wb Φ (.af e.cells) (.bool (e.kind==3)) [M a.1,.bool a.2] Q) [.bool b] H:=by
   intro b hb;simp only[aR,S.wb,aE,cW,cD,cv,lH,lI,A6,D,cJ,jj];cases b
   ·exact d _ λc hc=>hb c (by rw[hc];rfl)
   · rw[aa rfl];apply iz<;>intro h
     ·exact d _ λc hc=>hb c (by rw[hc,h];rfl)
     ·exact d _ λc hc=>hb c (by rw[hc,h];rfl)
  simp only[S.mM,lH,lI,Ic,D,cJ,cv];apply iz<;>intro h
  ·exact i _ λc hc=>fin c (by rw[hc,h];rfl)
  ·exact i _ λc hc=>fin c (by rw[hc,h];rfl)
 simp only[S.f215,S.Ad,S.Ae,S.Af,r9,aP,lH,lI,D,aR,aE,cJ,aB,bG];have g:∀n b,iy e.kind=(n,b)→(decide (1≤e.kind)&&decide (e.kind≤8))=true→S.mM Φ (.af e.cells) Q [M n,.bool b] H:=λn b h hk=>by have:=j hk;rw[h]at this;exact this
 repeat' (apply aF<;>intro h)
 all_goals first
  |(exfalso;omega)
  | (refine g _ _ ?_ ?_
     · unfold iy;simp[*]
     ·simp[*])
  |skip
 refine fin _ ?_;have:(decide (1≤e.kind)&&decide (e.kind≤8))=false:=by rw[acp,decide_eq_false_iff_not,decide_eq_false_iff_not];omega
 unfold hZ;rw[this];rfl
end
end Rb

namespace Rb
open Go
variable{s:ba}{loc:I}{H:Z}
theorem od:maxLen=9223372036854775807:=by decide
theorem X.fK{e:X}(h:e.ok):(e.bn.length≤9223372036854775807∧∀k∈e.bn,k.ok)∧e.place.ok:=by
 rw[←od];cases e with
 | mk kind n E op aV place bn=>obtain⟨_,_,_,_,_,a,b,c⟩:=h;exact⟨⟨b,X.dY.1 c⟩,a⟩
theorem aM.fK{x:aM}(h:x.ok):x.aC.length≤9223372036854775807∧∀p∈x.aC,p.bb.length≤9223372036854775807∧∀i∈p.bb,i.ok:=by
 rw[←od];cases x with
 | mk var aC=>
  obtain⟨_,a,b⟩:=h;refine⟨a,λp hp=>?_⟩;have:=K.dY.1 b p hp;cases p with
  | mk field bb=>obtain⟨_,c,d⟩:=this;exact⟨c,X.dY.1 d⟩
theorem X.ind{P:X→Prop}(h:∀e:X,(∀k∈e.bn,P k)→(∀p∈e.place.aC,∀i∈p.bb,P i)→P e):∀e,P e:=by
 have main:∀(n:Nat)(e:X),sizeOf e<n→P e:=by
  intro n;induction n with
  |zero=>intro e he;omega
  | succ n a=>
   intro e he;refine h e (λk hk=>a _ ?_) λp hp i hi=>a _ ?_
   · cases e with
     | mk kind n E op aV place bn=>have:=abV hk;simp at this he ⊢;omega
   · cases e with
     | mk kind n E op aV place bn=>
      cases place with
      | mk var aC=>
       have h1:=abV hp;cases p with
       | mk field bb=>have b:=abV hi;simp at h1 b he ⊢;omega
 exact λe=>main _ e (aaP _)
section
variable{C:Ctx}(ak:bP C)(hT:Cl (ai C) S.bu)
include ak hT
theorem Ij(k o:Int):bE (ai C) 142 [M k,M o] (.bool (iw k o)):=λH Q hQ=>S.PY hT (R8 hQ)
theorem Sd(e:X):bE (ai C) 215 [.agg e.cells] (.bool (hZ e)):=λH Q hQ=>S.Qy hT (Sc hT hQ)
theorem Se(k:Int)(t:T):bE (ai C) 193 [M k,.agg t.cells] (.bool (j5 k t)):=λH Q hQ=>S.Qr hT (R9 hQ)
theorem Sf(t:T)(p:K)(hs:c6 t=0)(hl:p.bb.length≤maxLen):bE (ai C) 69 [.agg t.cells,.agg p.cells] (hd (db t p)):=bE.of ak (by simp[I.bA,I.a_,T.a_,K.a_]) (HA _) λQ hQ=>S.Pj hT (Rn hT hs hl hQ)
theorem Ba(vars:List U)(x:aM)(hl:vars.length≤maxLen)(hv:∀v∈vars,v.ok)(a:x.ok):bE (ai C) 39 [av U.cells vars,.agg x.cells] (hd (bV vars x)):=by
 have hp:=aM.fK a;rw[←od]at hp;exact bE.of ak (by simp[I.bA,I.a_,aM.a_,j4 U.a_]) (HA _) λQ hQ=>S.O2 hT (Rq hT hl hp.1 (λv b=>Hx ak hT v.type (hv v b).2) (λt p hs c=>Sf ak hT t p hs (hp.2 p c).1) hQ)
end
def w7(C:Ctx)(id:Nat)(vars:List U)(e:X):Prop:=
 ∀ (s:ba) (d:Int) (loc:I) (H:Z) (Q:ad),At H id (.row (b5 vars s loc))→gh H id loc s.g→s.g.length≤1000 →
  (∀H',b7 id H H'→At H' id (.row (b5 vars (lC vars s d e) loc))→Q (.ar []) H')→ai C 194 [.ptr id 0,.agg e.cells,M d] H Q
def ft(r:Int×T):List I:=if r.1=0 then r.2.cells else jk
theorem w8(r:Int×T):(ft r).length=6:=by unfold ft;split;exact r.2.len;rfl
theorem Bb(r:Int×T):(ft r).all I.scalar=true:=by unfold ft;split;exact r.2.scalar;rfl
theorem Bc(r:Int×T):hd r = .ar [.agg (ft r),M r.1]:=by unfold hd ft;split;rename_i h;rw[h];rfl
section
variable{C:Ctx}(ak:bP C)(hT:Cl (ai C) S.bu){id:Nat}{vars:List U}
include ak hT
theorem Ik{l:List X}(hl:l.length≤9223372036854775807)(o:∀e∈l,w7 C id vars e){d:Int}{Q:ad}(p:At H id (.row (b5 vars s loc)))(q:gh H id loc s.g)(hb:s.g.length≤1000)
  (hQ:∀H',b7 id H H'→At H' id (.row (b5 vars (eB vars s d l) loc))→Q (.ar []) H'):ai C 145 [.ptr id 0,av X.cells l,M d] H Q:=by
 refine S.P1 hT ?_;unfold S.f145;simp only[cO,D];have main:∀(r:List X)(i:Nat)(s':ba)(H1:Z),l.drop i=r→dH s s'→b7 id H H1→At H1 id (.row (b5 vars s' loc))→eB vars s' d r=eB vars s d l →
   aA (S.rQ (ai C) (.ptr id 0) (av X.cells l) (M d) (M l.length) Q) ([M i],H1):=by
  intro r;induction r with
  | nil=>intro i s' H1 c b hk ha he;have hle:=ek c;refine aA.step ?_;simp only[S.rQ,aE,bD,D,aB];rw[ee];rw[eB]at he;exact hQ H1 hk (by rw[←he];exact ha)
  | cons e r t=>
   intro i s' H1 c b hk ha he;obtain⟨u,m,v⟩:=ed c;refine aA.step ?_;simp only[S.rQ,aE,bD,D,aB];rw[dU,cK u];simp only[D];rw[dz X.len (by decide) _ m];simp only[D,aP,aJ,aY];rw[cM _ _ _ 8 e.len e.scalar rfl];simp only[D];have fH:=ha.push (.row e.cells);have f:=hk.trans (b7.push id H1 (.row e.cells));have w:O (H1.push (.row e.cells)) 8 true (.ptr H1.n 0)=some (.agg e.cells):=by rw[eK,gJ e.len]
   have next:∀(s2:ba)(a:Z),b7 id H a→At a id (.row (b5 vars s2 loc))→dH s s2→eB vars s2 d r=eB vars s d l →
     N (S.vy (ai C) ([M i],H1) (aA (S.rQ (ai C) (.ptr id 0) (av X.cells l) (M d) (M l.length) Q)) Q) [] a:=by
    intro s2 a j a3 x y;simp only[aR,S.vy,aE,b4,D];rw[bI,iT i];exact t (i+1) s2 a v x j a3 y
   rw[eB]at he;generalize H1.push (.row e.cells)=H2 at *;refine S.nN hT (oa fH ?_);simp only[dS,D,aB];apply aF<;>intro h
   · have k:s'.bH=0:=by simpa using h
     rw[ae (by simpa using k)]at he;simp only[w,D,b4];refine o e (aaN m) s' _ loc H2 _ fH ((q.aI f).still b) (by rw[b.1];exact hb) λa j a3=>?_;exact next _ a (f.trans j) a3 (b.trans (wY vars e s' _)) he
   · have k:s'.bH≠0:=by simpa using h
     rw[aa k]at he;exact next s' H2 f fH b he
 exact main l 0 s H rfl (dH.refl s) (b7.refl id H) p rfl
theorem Il(P:vars.length≤maxLen)(hv:∀v∈vars,v.ok){x:aM}(B:x.ok)(R:∀p∈x.aC,∀i∈p.bb,w7 C id vars i){k d:Int}{Q:ad}(c:At H id (.row (b5 vars s loc)))(T:gh H id loc s.g)(hb:s.g.length≤1000)
  (hQ:∀H',b7 id H H'→At H' id (.row (b5 vars (j7 vars s k d x) loc))→Q (.ar []) H'):ai C 144 [.ptr id 0,M k,.agg x.cells,M d] H Q:=by
 obtain⟨aD,V⟩:=aM.fK B;refine S.P0 hT ?_;unfold S.f144;simp only[Ay,aP];refine S.nN hT (oa c ?_);simp only[aB];rw[RP]at hQ;apply aF<;>intro h
 · rw[aa (by simpa using h)]at hQ;exact hQ H (b7.refl _ _) c
 · have E : s.bH=0:=by simpa using h
   rw[ae (by simpa using E)]at hQ;simp only[aX,W,D,YO,YD];have l0:O H 1 false (.ptr id 0)=some (av U.cells vars):=by rw[c.load];rfl
   have ab:O H 2 true (.af x.cells)=some (.agg x.cells):=gJ x.len;simp only[l0,ab,D];refine Ba ak hT vars x P hv B _ _ ?_;rw[Bc];simp only[bh,abp,abq,D,aP,aJ,aY];have a2:=c.push (.row jk);refine⟨(a2.load 1 0 false).trans rfl,gJ x.len,?_⟩;change Do (Y (H.push (.row jk)) 6 (.ptr H.n 0) (.agg (ft (bV vars x)))) _;rw[cM _ _ _ 6 (w8 _) (Bb _) rfl];simp only[D,cJ];have a3:=c.push (.row (ft (bV vars x)));have ac:=b7.push id H (.row (ft (bV vars x)));have ag:=At.new H (.row (ft (bV vars x)));have ah:H.n≠id:=YR c.lr;generalize H.push (.row (ft (bV vars x)))=H2 at *;generalize H.n=aG at *;refine ho hT a3 λaH F a4=>?_;have aj:=F.2 _ _ ah ag;have G:=ac.trans F;have aC:∀(s1:ba)(b:Z),dH s s1→b7 id H b→At b id (.row (b5 vars s1 loc))→hg vars s1 d x.aC=hg vars (j6 vars s k x) d x.aC→N (S.vx (ai C) (.ptr id 0) (M d) (.af x.cells) Q) [] b:=by
    intro s1 b o hk ha he;simp only[aR,S.vx,Az,AA,cO,D];have main:∀(r:List K)(i:Nat)(s':ba)(H1:Z),x.aC.drop i=r→dH s s'→b7 id H H1→At H1 id (.row (b5 vars s' loc))→hg vars s' d r=hg vars (j6 vars s k x) d x.aC →
      aA (S.rP (ai C) (.ptr id 0) (M d) (av K.cells x.aC) (M x.aC.length) Q) ([M i],H1):=by
     intro r;induction r with
     | nil=>intro i s' H1 t o hk ha he;have hle:=ek t;refine aA.step ?_;simp only[S.rP,aE,bD,D,aB];rw[ee];rw[hg]at he;exact hQ H1 hk (by rw[←he];exact ha)
     | cons p r al=>
      intro i s' H1 t o hk ha he;obtain⟨am,hp,an⟩:=ed t;have I:=aaN hp;refine aA.step ?_;simp only[S.rP,aE,bD,D,aB];rw[dU,cK am];simp only[D];rw[dz K.len (by decide) _ hp];simp only[D,aP,aJ,aY];rw[cM _ _ _ 2 p.len p.scalar rfl];simp only[D,W,YO];have fH:=ha.push (.row p.cells);have ao:=hk.trans (b7.push id H1 (.row p.cells));have ap:O (H1.push (.row p.cells)) 1 false (.ptr H1.n 1)=some (av X.cells p.bb):=by rw[eK,K.bF];rfl
      simp only[ap,D,cO];rw[hg,RQ]at he;have inner:∀(q:List X)(j:Nat)(s2:ba)(a:Z),p.bb.drop j=q→dH s s2→b7 id H a→At a id (.row (b5 vars s2 loc))→hg vars (jH vars s2 d q) d r=hg vars (j6 vars s k x) d x.aC →
        aA (S.vw (ai C) (.ptr id 0) (M d) (av X.cells p.bb) (M p.bb.length) ([M i],H1) (aA (S.rP (ai C) (.ptr id 0) (M d) (av K.cells x.aC) (M x.aC.length) Q)) Q) ([M j],a):=by
       intro q;induction q with
       | nil=>intro j s2 a u f w y l;have hle:=ek u;refine aA.step ?_;simp only[S.vw,aE,bD,D,aB];rw[ee];simp only[aR,S.Gf,aE,b4,D];rw[bI,iT i];rw[jH]at l;exact al (i+1) s2 a an f w y l
       | cons e q aq=>
        intro j s2 a u f w y l;obtain⟨au,J,aw⟩:=ed u;have aK:=(V p I).1;refine aA.step ?_;simp only[S.vw,aE,bD,D,aB];rw[dU,cK au];simp only[D];rw[dz X.len (by decide) _ J];simp only[D,aP,aJ,aY];rw[cM _ _ _ 8 e.len e.scalar rfl];simp only[D];have ax:=y.push (.row e.cells);have L:=w.trans (b7.push id a (.row e.cells));have ay:O (a.push (.row e.cells)) 8 true (.ptr a.n 0)=some (.agg e.cells):=by rw[eK,gJ e.len]
        simp only[ay,D,b4];rw[jH]at l;refine R p I e (aaN J) s2 _ loc _ _ ax ((T.aI L).still f) (by rw[f.1];exact hb) λb az a5=>?_;rw[bI,iT j];exact aq (j+1) _ b aw (f.trans (wY vars e s2 _)) (L.trans az) a5 l
      exact inner p.bb 0 s' _ rfl o ao fH he
    exact main x.aC 0 s1 b rfl o hk ha he
   refine S.nN hT (oa a4 ?_);simp only[cv];apply iz<;>intro h
   · rw [aj.load,gJ (w8 _)];simp only[D];have m:(bV vars x).1=0:=by
      by_cases m:(bV vars x).1=0
      ·exact m
      · have:(s.cG ((bV vars x).1==0) (bV vars x).1).bH=(bV vars x).1:=by
          unfold ba.cG;rw[aa ⟨by simpa using m,E⟩]
        rw[this]at h;simp at h;exact absurd h m
     have hc:ft (bV vars x)=(bV vars x).2.cells:=by unfold ft;rw[aa m]
     rw[hc];refine Se ak hT _ _ _ _ ?_;refine ho hT a4 λz A a6=>?_;refine aC _ z ((eI _ _ _).trans (eI _ _ _)) (G.trans A) a6 ?_;unfold j6;simp only[h,aai]
   · refine ho hT a4 λz A a6=>?_;refine aC _ z ((eI _ _ _).trans (eI _ _ _)) (G.trans A) a6 ?_;unfold j6;simp only[h,Bool.true_or]
theorem Sg(n:vars.length≤maxLen)(hv:∀v∈vars,v.ok):∀e:X,e.ok→w7 C id vars e:=by
 refine X.ind λe o q he=>?_;obtain⟨⟨r,t⟩,l⟩:=X.fK he;have u:=aM.fK l;intro s d loc H Q w g hb hQ;refine S.Qs hT ?_;unfold S.f194;simp only[r9,aP,ji,D];refine ho hT w λH1 k1 a1=>?_;simp only[A7,D];refine Sd ak hT e _ _ ?_;refine ho hT a1 λH2 k2 a2=>?_;simp only[lH,lI,Ig,D,b4];refine Ij ak hT _ _ _ _ ?_;refine ho hT a2 λj x a3=>?_;have kk:=k1.trans (k2.trans x);rw[RO]at hQ;change At j id (.row (b5 vars (eA s d e) loc))at a3;have st1:=H9 s d e;generalize eA s d e=s1 at *;refine S.nN hT (oa a3 ?_);simp only[aB];apply aF<;>intro h
 · rw[aa (by simpa using h)]at hQ;exact hQ j kk a3
 · rw [ae (by simpa using h)]at hQ;simp only[cJ,D,aB];have bn:∀(f:ba)(a:Z),dH s f→b7 id H a→At a id (.row (b5 vars f loc))→(∀H',b7 id H H'→At H' id (.row (b5 vars (eB vars f d e.bn) loc))→Q (.ar []) H')→N (S.vW (ai C) (.ptr id 0) (M d) (.af e.cells) Q) [] a:=by
    intro f a b hk ha c;simp only[aR,S.vW,lH,w4,D];exact Ik ak hT r (λk m=>o k m (t k m)) ha ((g.aI hk).still b) (by rw[b.1];exact hb) λH' k' a'=>c H' (hk.trans k') a'
   have iA:∀(s2:ba)(a:Z),dH s s2→b7 id H a→At a id (.row (b5 vars s2 loc))→(∀H',b7 id H H'→At H' id (.row (b5 vars (eB vars (if e.kind≥4 then j7 vars s2 (B (10+e.kind)) d e.place else s2) d e.bn) loc))→Q (.ar []) H') →
     N (S.vX (ai C) (.ptr id 0) (M d) (.af e.cells) Q) [] a:=by
    intro s2 a b hk ha c;simp only[aR,S.vX,lH,lI,r_,D,f_,aB,b4];apply aF<;>intro h
    · rw[aa (by simpa using h)]at c;refine Il ak hT n hv l (λp hp i hi=>q p hp i hi ((u.2 p hp).2 i hi)) ha ((g.aI hk).still b) (by rw[b.1];exact hb) λH' k' a'=>?_;exact bn _ H' (b.trans (A4 vars _ _ _ _)) (hk.trans k') a' c
    · rw[ae (by simpa using h)]at c;exact bn _ a b hk ha c
   apply aF<;>intro h
   · rw[show(if e.kind=2 then s1.cG (s1.has e.E) 6 else s1)=s1.cG (s1.has e.E) 6 from aa (by simpa using h)]at hQ;simp only[A6,D];refine r8 hT a3 ((g.aI kk).still st1) (by rw[st1.1];exact hb) ?_;refine ho hT a3 λa y a4=>?_;exact iA _ a (st1.trans (eI _ _ _)) (kk.trans y) a4 hQ
   · rw[show(if e.kind=2 then s1.cG (s1.has e.E) 6 else s1)=s1 from ae (by simpa using h)]at hQ;exact iA _ j st1 kk a3 hQ
end
end Rb

namespace Rb
open Go
variable{s:ba}{x:aw}{d:Int}{id:Nat}
section
variable{Φ:aj}{H:Z}{Q:ad}
theorem Sh(hT:Cl Φ S.bu)(hQ:∀H',Q (.bool (jl x)) H'):S.f141 Φ (.agg x.cells) H Q:=by
 have fin:∀(b:Bool) H',b=jl x→Q (.bool b) H':=λb H' h=>by rw[h];exact hQ H'
 clear hQ;unfold S.f141;simp only[ob,aP,hq,lJ,D];refine S.Qq hT (Sb λH1=>?_);simp only[bh,abp,abq,D,aP,aJ,aY];rw[cM _ _ _ 6 (R_ _) (Sa _) rfl];simp only[D];have at9:=At.new H1 (.row (kD x.kind));generalize H1.push (.row (kD x.kind))=H2 at *;generalize H1.n=d at *;by_cases hk:(decide (1≤x.kind)&&decide (x.kind≤10))=true
 · have hc:kD x.kind=[.bool (eG x.kind).1,.bool (eG x.kind).2.1,.bool (eG x.kind).2.2.1,M (eG x.kind).2.2.2.1,.bool (eG x.kind).2.2.2.2.1,.bool (eG x.kind).2.2.2.2.2]:=by
     unfold kD;rw[aa (by simpa using hk)]
   rw[hc]at at9;unfold jl at fin;rw[hk]at fin ⊢;simp only[abh]at fin;generalize eG x.kind=h at *;obtain⟨j,h1,i,g,f,e⟩:=h;simp only at at9 fin;have k1:∀(b:Bool)(H':Z),At H' d (.row [.bool j,.bool h1,.bool i,M g,.bool f,.bool e])→(∀c a,c=(b&&(e||x.bw.length==0))→Q (.bool c) a)→N (S.pV Φ (.af x.cells) (.ptr d 0) Q) [.bool b] H':=by
    intro b H' ha hb;have l:O H' 1 false (.ptr d 5)=some (.bool e):=by rw[ha.load];rfl
    simp only[aR,S.pV,aE,cD,cv,W,YO,A_,D,cO,cJ,l,Ii];cases b
    ·exact hb _ _ rfl
    · rw[aa rfl];apply iz<;>intro h
      ·exact hb _ _ (by rw[h];rfl)
      ·exact hb _ _ (by rw[h];rfl)
   have k2:∀(b:Bool)(H':Z),At H' d (.row [.bool j,.bool h1,.bool i,M g,.bool f,.bool e])→(∀c a,c=(b&&(f||x.be.length==0)&&(e||x.bw.length==0))→Q (.bool c) a)→N (S.rO Φ (.af x.cells) (.ptr d 0) Q) [.bool b] H':=by
    intro b H' ha hb;have l:O H' 1 false (.ptr d 4)=some (.bool f):=by rw[ha.load];rfl
    simp only[aR,S.rO,aE,cD,cv,W,YO,w6,D,cO,cJ,l,Ii];cases b
    ·exact k1 _ _ ha λc a hc=>hb c a (by rw[hc];rfl)
    · rw[aa rfl];apply iz<;>intro h
      ·exact k1 _ _ ha λc a hc=>hb c a (by rw[hc,h];rfl)
      ·exact k1 _ _ ha λc a hc=>hb c a (by rw[hc,h];rfl)
   have k:∀(b:Bool)(H':Z),At H' d (.row [.bool j,.bool h1,.bool i,M g,.bool f,.bool e])→(∀c a,c=(b&&((x.bc.length:Int)==g)&&(f||x.be.length==0)&&(e||x.bw.length==0))→Q (.bool c) a) →
     N (S.pW Φ (.af x.cells) (.ptr d 0) Q) [.bool b] H':=by
    intro b H' ha hb;have l:O H' 1 false (.ptr d 3)=some (M g):=by rw[ha.load];rfl
    simp only[aR,S.pW,aE,cD,cv,W,YO,mU,D,cO,cJ,l];cases b
    ·exact k2 _ _ ha λc a hc=>hb c a (by rw[hc];rfl)
    · rw[aa rfl];exact k2 _ _ ha λc a hc=>hb c a (by rw[hc];rfl)
   have m:∀(b:Bool)(H':Z),At H' d (.row [.bool j,.bool h1,.bool i,M g,.bool f,.bool e])→(∀c a,c=(b&&(i||kA x.place)&&((x.bc.length:Int)==g)&&(f||x.be.length==0)&&(e||x.bw.length==0))→Q (.bool c) a) →
     N (S.pX Φ (.af x.cells) (.ptr d 0) Q) [.bool b] H':=by
    intro b H' ha hb;have l:O H' 1 false (.ptr d 2)=some (.bool i):=by rw[ha.load];rfl
    simp only[aR,S.pX,aE,cD,cv,W,YO,oc,D,l];cases b
    ·exact k _ _ ha λc a hc=>hb c a (by rw[hc];rfl)
    · rw [aa rfl];apply iz<;>intro h
      · refine S.Ha hT (Ib ?_);exact k _ _ ha λc a hc=>hb c a (by rw[hc,h];rfl)
      ·exact k _ _ ha λc a hc=>hb c a (by rw[hc,h];rfl)
   have o:∀(b:Bool)(H':Z),At H' d (.row [.bool j,.bool h1,.bool i,M g,.bool f,.bool e])→(∀c a,c=(b&&(h1||x.cg==[])&&(i||kA x.place)&&((x.bc.length:Int)==g)&&(f||x.be.length==0)&&(e||x.bw.length==0))→Q (.bool c) a) →
     N (S.pY Φ (.af x.cells) (.ptr d 0) Q) [.bool b] H':=by
    intro b H' ha hb;have l:O H' 1 false (.ptr d 1)=some (.bool h1):=by rw[ha.load];rfl
    simp only[aR,S.pY,aE,cD,cv,W,YO,A9,D,l,jj];cases b
    ·exact m _ _ ha λc a hc=>hb c a (by rw[hc];rfl)
    · rw[aa rfl];apply iz<;>intro h
      ·exact m _ _ ha λc a hc=>hb c a (by rw[hc,h];rfl)
      ·exact m _ _ ha λc a hc=>hb c a (by rw[hc,h];rfl)
   have l:O H2 1 false (.ptr d 0)=some (.bool j):=by rw[at9.load];rfl
   simp only[cD,cv,W,YO,YD,l,D,mT,jj,aY];apply iz<;>intro h
   ·exact o _ _ at9 λc a hc=>fin c a (by rw[hc,h];rfl)
   ·exact o _ _ at9 λc a hc=>fin c a (by rw[hc,h];rfl)
 · simp only[abW]at hk;rw[hk];simp only[cD,S.pV,S.rO,S.pW,S.pX,S.pY,aR,aE,ZV,bR];refine fin _ _ ?_;unfold jl;rw[hk];rfl
end
def jn(s:ba):Prop:=(s.g.length:Int)≤s.lets∧s.lets≤41∧(s.bH=0→s.lets≤40)
theorem Si{a:Bool}{e:Int}(b:e≠0)(h:(s.cG a e).bH=0):s.bH=0∧a=true:=by
 unfold ba.cG at h;split at h
 ·exact absurd h b
 · rename_i hn;refine⟨h,?_⟩;cases a with
   |true=>rfl
   |false=>exact absurd ⟨rfl,h⟩ hn
section
variable(vars:List U)(kw:List UInt8→Bool)
theorem Im(s:ba)(d:Int)(x:aw):dH s (gL vars kw s d x):=by
 unfold gL;split
 ·exact(eI _ _ _).trans ((eI _ _ _).trans (eI _ _ _))
 · split
   ·exact eI _ _ _
   · split
     ·exact A4 vars _ _ _ _
     ·exact dH.refl s
theorem Sj(a:x.kind=1)(h:(gL vars kw s d x).bH=0):s.lets<40:=by unfold gL at h;rw[aa a]at h;have:=(Si (by decide) h).2;exact of_decide_eq_true this
theorem Sk{l:List X}(h:(eB vars s d l).bH=0):s.bH=0:=by
 by_cases a:s.bH=0
 ·exact a
 ·rw[HO vars a]at h;exact absurd h a
theorem Sl(a:x.kind≠1):dH s (jm s x):=by
 unfold jm;rw[ae a];split
 ·exact(eI _ _ _).trans ((eI _ _ _).trans (eI _ _ _))
 ·exact dH.refl s
theorem Io(a:s.bH=0)(hi:jn s):jn (gg vars kw s d x)∧s.lets≤(gg vars kw s d x).lets∧s.g.length≤(gg vars kw s d x).g.length:=by
 obtain⟨i1,i2,i3⟩:=hi;have i4:=i3 a;have s1:dH s (eB vars (gL vars kw (gd s d x) d x) d x.bc):=(A3 s d x).trans ((Im vars kw _ d x).trans (wZ vars _ _ _));unfold gg;by_cases hk:x.kind=1
 · have hl:(eB vars (gL vars kw (gd s d x) d x) d x.bc).bH=0→s.lets<40:=by
     intro h;have:=Sj vars kw hk (Sk vars h);rw[(A3 s d x).2]at this;exact this
   generalize eB vars (gL vars kw (gd s d x) d x) d x.bc=t at *;unfold jm;rw[aa hk];unfold ba.AM jn;simp only[abI,acq];obtain⟨s2,b⟩:=s1;rw[s2,b];have e:B (s.lets+1)=s.lets+1:=bI;rw[e];refine⟨⟨by omega,by omega,λk=>?_⟩,by omega,by omega⟩;have:=hl k;omega
 · have s2:=s1.trans (Sl (s:=eB vars (gL vars kw (gd s d x) d x) d x.bc) hk);refine⟨⟨by rw[s2.1,s2.2];exact i1,by rw[s2.2];exact i2,λ_=>by rw[s2.2];exact i4⟩,by rw[s2.2];exact ach _,by rw[s2.1];exact sl _⟩
mutual
theorem Ip:∀(x:aw)(s:ba)(d:Int),s.bH=0→jn s→jn (stM vars kw s d x)∧s.lets≤(stM vars kw s d x).lets∧s.g.length≤(stM vars kw s d x).g.length
 | .mk kind V E cg aV place bc be bw,s,d,a,hi=>by rw[stM];have h1:=Io vars kw (d:=d) (x:= .mk kind V E cg aV place bc be bw) a hi;generalize gg vars kw s d (.mk kind V E cg aV place bc be bw)=s1 at *;have b:=sa be s1 s1.g.length (B (d+1)) h1.1 (sl _);generalize fj vars kw s1 s1.g.length (B (d+1)) be=s2 at *;have e1:(s2.at V).lets=s2.lets:=rfl;have c:(s2.at V).g.length=s2.g.length:=rfl;have f:jn (s2.at V):=b.1;generalize s2.at V=t at *;have h:=sa bw t t.g.length (B (d+1)) f (sl _);exact⟨h.1,by omega,by omega⟩
theorem sa:∀(l:List aw)(s:ba)(n:Nat)(d:Int),jn s→n≤s.g.length→jn (fj vars kw s n d l)∧s.lets≤(fj vars kw s n d l).lets∧(fj vars kw s n d l).g.length=n
 | [],s,n,d,hi,hn=>by
  rw[fj];obtain⟨i1,i2,i3⟩:=hi;have e:(s.back n).g.length=n:=by show(s.g.take n).length=n;rw[ab3];omega
  exact⟨⟨by rw[e];show(n:Int)≤s.lets;omega,i2,i3⟩,ach _,e⟩
 | x :: r,s,n,d,hi,hn=>by
  rw[fj];by_cases a:s.bH=0
  · rw[ae (by simpa using a)];have h1:=Ip x (s.at x.V) d a hi;have e1:(s.at x.V).lets=s.lets:=rfl;have c:(s.at x.V).g=s.g:=rfl;rw[e1,c]at h1;have b:=sa r (stM vars kw (s.at x.V) d x) n d h1.1 (by omega);exact⟨b.1,by omega,b.2.2⟩
  · rw[aa a];exact sa r s n d hi hn
end
theorem Sm{l:List aw}(hi:jn s):jn (h0 vars kw s d l)∧s.lets≤(h0 vars kw s d l).lets∧(h0 vars kw s d l).g.length=s.g.length:=sa vars kw l s _ d hi (sl _)
end
def Frame(id:Nat)(a:I)(H:Z)(b:I)(H':Z):Prop:=H.n≤H'.n∧(∀i o,i≠id→(∀n,a ≠ .row i 0 n 1)→At H i o→At H' i o)∧∀j n,b = .row j 0 n 1→(∃m,a = .row j 0 m 1)∨H.n≤j
theorem Frame.of{a:I}{H H':Z}(h:b7 id H H'):Frame id a H a H':=⟨h.1,λi o hi _ b=>h.2 i o hi b,λj n e=> .inl ⟨n,e⟩⟩
theorem Frame.trans{l0 l1 l2:I}{a b c:Z}(h:Frame id l0 a l1 b)(k:Frame id l1 b l2 c):Frame id l0 a l2 c:=by
 refine⟨xl h.1 k.1,λi o hi hn f=>k.2.1 i o hi (λn e=>?_) (h.2.1 i o hi hn f),λj n e=>?_⟩
 · rcases h.2.2 i n e with⟨m,d⟩|g
   ·exact hn m d
   ·exact absurd f.1 (by omega)
 · rcases k.2.2 j n e with⟨m,d⟩|g
   ·exact h.2.2 j m d
   ·right;have:=h.1;omega
end Rb

namespace Rb
open Go
variable{H:Z}{loc:I}
theorem aw.fK{x:aw}(h:x.ok):x.place.ok∧(x.bc.length≤9223372036854775807∧∀e∈x.bc,e.ok)∧(x.be.length≤9223372036854775807∧∀y∈x.be,y.ok)∧(x.bw.length≤9223372036854775807∧∀y∈x.bw,y.ok):=by
 rw[←od];cases x with
 | mk kind V E cg aV place bc be bw=>obtain⟨_,_,_,_,_,a,b,c,h9,d,f,g⟩:=h;exact⟨a,⟨b,X.dY.1 c⟩,⟨h9,aw.dY.1 d⟩,f,aw.dY.1 g⟩
theorem aw.ind{P:aw→Prop}(h:∀x:aw,(∀y∈x.be,P y)→(∀y∈x.bw,P y)→P x):∀x,P x:=by
 have main:∀(n:Nat)(x:aw),sizeOf x<n→P x:=by
  intro n;induction n with
  |zero=>intro x a;omega
  | succ n c=>
   intro x a;refine h x (λy b=>c _ ?_) λy b=>c _ ?_
   · cases x with
     | mk kind V E cg aV place bc be bw=>have:=abV b;simp at this a ⊢;omega
   · cases x with
     | mk kind V E cg aV place bc be bw=>have:=abV b;simp at this a ⊢;omega
 exact λx=>main _ x (aaP _)
theorem Sn(cs:List I)(n:Nat)(v:I):setCells cs n [v]=cs.set n v:=rfl
theorem Sp{id:Nat}{l:List (List UInt8)}{x:List UInt8}{k:List I}(a:At H id (.row k))(p:gh H id loc l)(hb:l.length≤1000){K:ad}
  (b:∀c H',Frame id loc H c H'→At H' id (.row k)→gh H' id c (l++[x])→K c H'):au (cp H true 1 16 loc (.aq .full 1 [.str x])) K:=by
 have m:fe H 1 (.aq .full 1 [.str x])=some (1,[.str x]):=rfl;rcases p with⟨rfl,rfl⟩|⟨j,cs,rfl,d,f,r,g⟩
 · refine⟨.row H.n 0 1 1,H.push (.row [.str x]),rfl,?_⟩;refine b _ _ ⟨YH _,λi o _ _ h=>h.push _,λj n e=>?_⟩ (a.push _) (.inr ⟨H.n,[.str x],rfl,YR a.lr,At.new H _,sl _,rfl⟩);cases e;right;exact sl _
 · by_cases hc:l.length+1≤cs.length
   · refine ⟨.row j 0 (l.length+1) 1,H.set j (.row (setCells cs (l.length*1) [.str x])),?_,?_⟩
     · simp only[cp,m,f.2];simp only[aaM,acr,I.scalar,acs,not_true_eq_false,bR];rw[el,ae (by simp only[abF];exact⟨trivial,trivial,by omega,by omega⟩),cY]
     · rw [acu,Sn];refine b _ _ ⟨sl _,λi o hi hn h=>h.bZ (λe=>hn l.length (by rw[e])) _,λi n e=>?_⟩ (a.bZ (YR d) _) (.inr ⟨j,cs.set l.length (.str x),by simp,d,f.set _,by simpa using hc,?_⟩)
       · cases e;left;exact⟨_,rfl⟩
       · rw[abI,acq,abR,YW (by omega),acv (by omega),g];simp
   · have q:cs.length=l.length:=by omega
     refine⟨.row H.n 0 (l.length+1) 1,(H.set j .gone).push (.row (cs++[.str x])),?_,?_⟩
     · simp only[cp,m,f.2];simp only[aaM,acr,I.scalar,acs,not_true_eq_false,bR];rw[el,ae (by simp only[abF];exact⟨trivial,trivial,by omega,by omega⟩),bC,cY]
     · refine b _ _ ⟨by simp,λi o hi hn h=>(h.bZ (λe=>hn l.length (by rw[e])) _).push _,λi n e=>?_⟩ ((a.bZ (YR d) _).push _) (.inr ⟨H.n,cs++[.str x],by simp,YR a.lr,?_,by simp;omega,?_⟩)
       · cases e;right;exact sl _
       ·exact At.new (H.set j .gone) _
       · rw[abI,acq,abM (by simp;omega)];rw[←q,abA]at g;rw[g];simp
def Iq(C:Ctx)(id:Nat)(vars:List U)(kw:List UInt8→Bool)(x:aw):Prop:=
 ∀ (s:ba) (d:Int) (loc:I) (H:Z) (Q:ad),s.bH=0→jn s→At H id (.row (b5 vars s loc))→gh H id loc s.g →
  (∀H' a,Frame id loc H a H'→At H' id (.row (b5 vars (stM vars kw s d x) a))→gh H' id a (stM vars kw s d x).g→Q (.ar []) H')→ai C 99 [.ptr id 0,.agg x.cells,M d] H Q
section
variable{C:Ctx}(ak:bP C)(hT:Cl (ai C) S.bu){id:Nat}{vars:List U}{kw:List UInt8→Bool}
include ak hT
theorem Sq(x:aw):bE (ai C) 141 [.agg x.cells] (.bool (jl x)):=bE.of ak (by simp[I.bA,I.a_,aw.a_]) rfl λQ hQ=>S.PX hT (Sh hT hQ)
theorem Bd{l:List aw}(hl:l.length≤9223372036854775807)(hS:∀x∈l,Iq C id vars kw x){s:ba}{d:Int}{Q:ad}(hi:jn s)(v:At H id (.row (b5 vars s loc)))(w:gh H id loc s.g)
  (hQ:∀H' q,Frame id loc H q H'→At H' id (.row (b5 vars (h0 vars kw s d l) q))→gh H' id q (h0 vars kw s d l).g→Q (.ar []) H'):ai C 64 [.ptr id 0,av aw.cells l,M d] H Q:=by
 refine S.Pe hT ?_;unfold S.f64;simp only[aX,W,D,YO];rw[v.load,show bT (b5 vars s loc) 1 1 false=some loc from rfl];simp only[D];have hlen:∀{H:Z}{lc:I}{xs:List (List UInt8)},gh H id lc xs→bo false lc=some (M xs.length):=by
  intro H lc xs h;rcases h with⟨rfl,rfl⟩|⟨j,cs,rfl,_⟩
  ·rfl
  ·rfl
 rw[hlen w];simp only[D,cO];have main:∀(r:List aw)(i:Nat)(s':ba)(a:I)(H1:Z),l.drop i=r→jn s'→s.g.length≤s'.g.length→Frame id loc H a H1→At H1 id (.row (b5 vars s' a))→gh H1 id a s'.g→fj vars kw s' s.g.length d r=h0 vars kw s d l →
   aA (S.rJ (ai C) (.ptr id 0) (av aw.cells l) (M d) (M s.g.length) (M l.length) Q) ([M i],H1):=by
  intro r;induction r with
  | nil =>
   intro i s' a H1 t o c hf ha p he;have hle:=ek t;refine aA.step ?_;simp only[S.rJ,aE,bD,D,aB];rw[ee];simp only[aR,S.Fa,aX,W,D,YO];rw[ha.load,show bT (b5 vars s' a) 1 1 false=some a from rfl];simp only[D];rw[fj]at he;have cut:∃b,c9 1 a none (some (M s.g.length)) none=some b∧Frame id a H1 b H1∧(∀cs,At (H1.set id (.row cs)) id (.row cs)→gh (H1.set id (.row cs)) id b (s'.g.take s.g.length))∧b.known=true∧b.cells=[b]∧b.scalar=true:=by
    rcases p with⟨rfl,h⟩|⟨j,cs,rfl,y,F,aj,G⟩
    · have k:s.g.length=0:=by rw[h]at c;simpa using c
      refine⟨aQ,?_,⟨sl _,λ_ _ _ _ h=>h,λ_ _ e=>by cases e⟩,λ_ _=> .inl ⟨rfl,by rw[h];simp⟩,rfl,rfl,rfl⟩;rw[k];rfl
    · refine ⟨.row j 0 s.g.length 1,?_,⟨sl _,λ_ _ _ _ h=>h,λi n e=>by cases e;exact .inl ⟨_,rfl⟩⟩,λcs' _=> .inr ⟨j,cs,?_,y,F.bZ y _,?_,?_⟩,rfl,rfl,rfl⟩
      · simp only[c9,eh];rw[cY];simp only[acw];rw[aa ⟨Yz _,by omega,trivial⟩,aa (.inl trivial)];simp
      ·rw[ab3,acx c]
      ·rw[ab3];omega
      ·rw[ab3,acx c,acy,←G,acz,acx c]
   obtain⟨b,e1,f2,l2,g1,g2,g3⟩:=cut;rw[e1];simp only[D];rw[ha.store,aa ⟨g1,by rw[g2];rfl,by rw[g2];simp[g3],by simp[b5]⟩,g2];simp only[D];have J:setCells (b5 vars s' a) 1 [b]=b5 vars (s'.back s.g.length) b:=rfl;rw[J];refine hQ _ b ((hf.trans f2).trans (Frame.of (b7.set id H1 _))) (by rw[←he];exact ha.set _) ?_;rw[←he];exact l2 _ (ha.set _)
  | cons x r K=>
   intro i s' a H1 t o c hf ha p he;obtain⟨L,z,P⟩:=ed t;have R:=aaN z;refine aA.step ?_;simp only[S.rJ,aE,bD,D,aB];rw[dU,cK L];simp only[D];rw[dz aw.len (by decide) _ z];simp only[D,aP,aJ,aY];rw[cM _ _ _ 10 x.len x.scalar rfl];simp only[D,W,YO];have fH:=ha.push (.row x.cells);have u:b7 id H1 (H1.push (.row x.cells)):=b7.push id H1 (.row x.cells);have A:=At.new H1 (.row x.cells);have T:H1.n≠id:=YR ha.lr;have next:∀(s2:ba)(m:I)(f:Z),jn s2→s.g.length≤s2.g.length→Frame id loc H m f→At f id (.row (b5 vars s2 m))→gh f id m s2.g→fj vars kw s2 s.g.length d r=h0 vars kw s d l →
     N (S.uW (ai C) ([M i],H1) (aA (S.rJ (ai C) (.ptr id 0) (av aw.cells l) (M d) (M s.g.length) (M l.length) Q)) Q) [] f:=by
    intro s2 m f i3 U f3 a3 l3 X;simp only[aR,S.uW,aE,b4,D];rw[bI,iT i];exact K (i+1) s2 m f P i3 U f3 a3 l3 X
   rw[fj]at he;generalize H1.push (.row x.cells)=H2 at *;generalize H1.n=B at *;refine S.nN hT (oa fH ?_);simp only[dS,D,aB];apply aF<;>intro h
   · have k:s'.bH=0:=by simpa using h
     rw[ae (by simpa using k)]at he;have Y:O H2 1 false (.ptr B 1)=some (M x.V):=by rw[A.load,aw.bF,aM.bF];rfl
     simp only[Y,D,aX];rw[fH.store,aa ⟨rfl,rfl,rfl,by simp[b5]⟩];simp only[D];have ab:setCells (b5 vars s' a) 3 (M x.V).cells=b5 vars (s'.at x.V) a:=rfl;rw[ab];have a4:At (H2.set id (.row (b5 vars (s'.at x.V) a))) id (.row (b5 vars (s'.at x.V) a)):=fH.set _;have E:b7 id H1 (H2.set id (.row (b5 vars (s'.at x.V) a))):=u.trans (b7.set id H2 _);have ac:At (H2.set id (.row (b5 vars (s'.at x.V) a))) B (.row x.cells):=A.bZ T _;generalize H2.set id (.row (b5 vars (s'.at x.V) a))=f at *;rw[ac.load,gJ x.len];simp only[D];have inv:=Ip vars kw x (s'.at x.V) d k o;refine hS x R (s'.at x.V) d a f _ k o a4 (p.aI E) λaf ag f5 a5 ah=>?_;exact next _ ag af inv.1 (xl c inv.2.2) ((hf.trans (Frame.of E)).trans f5) a5 ah he
   · have k:s'.bH≠0:=by simpa using h
     rw[aa k]at he;exact next s' a H2 o c (hf.trans (Frame.of u)) fH (p.aI u) he
 exact main l 0 s loc H rfl hi (sl _) (Frame.of (b7.refl id H)) v w rfl
theorem Sr(ah:vars.length≤maxLen)(hv:∀v∈vars,v.ok)(gi:∀x,bE (ai C) 96 [.str x] (.bool (kw x))):∀x:aw,x.ok→Iq C id vars kw x:=by
 refine aw.ind λx av ax ay=>?_;obtain⟨aj,⟨az,aA⟩,⟨aC,aD⟩,aG,aH⟩:=aw.fK ay;have aJ:=aM.fK aj;have al:∀e:X,e.ok→w7 C id vars e:=Sg ak hT ah hv;intro s d loc H Q aK hi aL n hQ;have hb:s.g.length≤1000:=by have:=hi.1;have:=hi.2.1;omega
 have am:=Io vars kw (d:=d) (x:=x) aK hi;rw[stM_eq]at hQ;refine S.Px hT ?_;unfold S.f99;simp only[ob,aP,ji,D];refine ho hT aL λH1 k1 a1=>?_;simp only[Ih,D];refine Sq ak hT x _ _ ?_;refine ho hT a1 λH2 k2 a2=>?_;simp only[hq,lJ,w5,D];refine Ij ak hT _ _ _ _ ?_;refine ho hT a2 λT aN a3=>?_;have kk:=k1.trans (k2.trans aN);change At T id (.row (b5 vars (gd s d x) loc))at a3;have st1:=A3 s d x;have tail:∀(A:I)(c:Z),Frame id loc H A c→At c id (.row (b5 vars (gg vars kw s d x) A))→gh c id A (gg vars kw s d x).g→N (S.rN (ai C) (.ptr id 0) (M d) (.af x.cells) Q) [] c:=by intro A c f4 a4 l4;generalize gg vars kw s d x=an at *;simp only[aR,S.rN,hq,w6,D,b4];have b1:=Sm vars kw (d:=B (d+1)) (l:=x.be) am.1;refine Bd ak hT aC (λy u=>av y u (aD y u)) am.1 a4 l4 λo U f5 a5 aO=>?_;simp only[A8,D,aX,W,YO];change At o id (.row (b5 vars (h0 vars kw an (B (d+1)) x.be) U))at a5;generalize h0 vars kw an (B (d+1)) x.be=a at *;rw[a5.store,aa ⟨rfl,rfl,rfl,by simp[b5]⟩];simp only[D];have aQ:setCells (b5 vars a U) 3 (M x.V).cells=b5 vars (a.at x.V) U:=rfl;rw[aQ];simp only[D,hq,A_];refine Bd ak hT aG (λy u=>ax y u (aH y u)) (s:=a.at x.V) b1.1 (a5.set _) (aO.aI (b7.set id o _)) λm f f6 a6 F=>?_;exact hQ m f (((f4.trans f5).trans (Frame.of (b7.set id o _))).trans f6) a6 F
 have iA:∀(c:Z),b7 id H c→At c id (.row (b5 vars (gL vars kw (gd s d x) d x) loc))→N (S.pT (ai C) (.ptr id 0) (M d) (.af x.cells) Q) [] c:=by
  intro c k a4;have st2:=st1.trans (Im vars kw (gd s d x) d x);simp only[aR,S.pT,hq,mU,D];refine Ik ak hT az (λe he=>al e (aA e he)) a4 ((n.aI k).still st2) (by rw[st2.1];exact hb) λo Y a5=>?_;have t:=st2.trans (wZ vars x.bc (gL vars kw (gd s d x) d x) d);have q:=k.trans Y;have aS:gg vars kw s d x=jm (eB vars (gL vars kw (gd s d x) d x) d x.bc) x:=rfl;rw[aS]at tail;generalize eB vars (gL vars kw (gd s d x) d x) d x.bc=a at *;simp only[lJ,D,cJ,aB];apply aF<;>intro h
  · have G:x.kind=1:=by simpa using h
    have w:jm a x=a.AM x.E:=by unfold jm;rw[aa G]
    rw[w]at tail;simp only[aX,W,D,YO];rw[a5.load,show bT (b5 vars a loc) 1 1 false=some loc from rfl];simp only[D,hq,mT];rw[show dk o false 1 1 [.str []] [(0,1,.str x.E)]=some (.aq .full 1 [.str x.E],o)from rfl];simp only[aP];refine Sp a5 ((n.aI q).still t) (by rw[t.1];exact hb) λf m f6 a6 F=>?_;have z:f.known=true∧f.cells=[f]∧f.scalar=true:=by
     rcases F with⟨rfl,_⟩|⟨j,cs,rfl,_⟩
     ·exact⟨rfl,rfl,rfl⟩
     ·exact⟨rfl,rfl,rfl⟩
    rw[a6.store,aa ⟨z.1,by rw[z.2.1];rfl,by rw[z.2.1];simp[z.2.2],by simp[b5]⟩,z.2.1];simp only[D];have aT:setCells (b5 vars a loc) 1 [f]=b5 vars a f:=rfl;rw[aT];have a7:At (m.set id (.row (b5 vars a f))) id (.row (b5 vars a f)):=a6.set _;have ab:b7 id m (m.set id (.row (b5 vars a f))):=b7.set id m _;generalize m.set id (.row (b5 vars a f))=ao at *;rw[a7.load,show bT (b5 vars a f) 2 1 false=some (M a.lets)from rfl];simp only[D,b4];rw[a7.store,aa ⟨rfl,rfl,rfl,by simp[b5]⟩];simp only[D];have J:=ab.trans (b7.set id ao (.row (setCells (b5 vars a f) 2 (M (Zb .i64 (a.lets+1))).cells)));exact tail f _ (((Frame.of q).trans f6).trans (Frame.of J)) (a7.set _) (F.aI J)
  · have G:x.kind≠1:=by simpa using h
    apply aF<;>intro r
    · have ac:x.kind=5:=by simpa using r
      have w:jm a x=((a.cG (a.has x.E) 6).cG ((a.cG (a.has x.E) 6).has x.cg) 6).cG (!(x.E==x.cg)) 7:=by
       unfold jm;rw[ae G,aa ac];have:(a.cG (a.has x.E) 6).has x.cg=a.has x.cg:=by unfold ba.has;rw[(eI a _ _).1]
       rw[this]
      rw[w]at tail;simp only[mT,A9,D];refine r8 hT a5 ((n.aI q).still t) (by rw[t.1];exact hb) ?_;refine ho hT a5 λm K a6=>?_;have ad:=t.trans (eI a (a.has x.E) 6);refine r8 hT a6 ((n.aI (q.trans K)).still ad) (by rw[ad.1];exact hb) ?_;refine ho hT a6 λao ab a7=>?_;simp only[rX,D];refine ho hT a7 λaU J a8=>?_;have ap:=q.trans (K.trans (ab.trans J));refine tail loc aU (Frame.of ap) a8 ((n.aI ap).still (ad.trans ((eI _ _ _).trans (eI _ _ _))))
    · have ac:x.kind≠5:=by simpa using r
      have w:jm a x=a:=by unfold jm;rw[ae G,ae ac]
      rw[w]at tail;exact tail loc o (Frame.of q) a5 ((n.aI q).still t)
 have ag:gL vars kw (gd s d x) d x=gL vars kw (gd s d x) d x:=rfl
 conv at ag=>rhs;unfold gL
 rw[ag]at iA;clear ag;generalize gd s d x=s1 at *;simp only[lJ,D,cJ,aB];apply aF<;>intro h
 · rw [aa (by simpa using h)]at iA;have ar:∀(b:Bool)(c:Z),b=(fg x.E&&!kw x.E)→b7 id H c→At c id (.row (b5 vars (s1.cG b 6) loc))→N (S.vj (ai C) (.ptr id 0) (M d) (.af x.cells) Q) [] c:=by
    intro b c L k a4;rw[←L]at iA;have st2:=st1.trans (eI s1 b 6);have aV:(s1.cG b 6).has x.E=s1.has x.E:=by unfold ba.has;rw[(eI s1 b 6).1]
    have aW:((s1.cG b 6).cG (!s1.has x.E) 7).lets=s1.lets:=((eI s1 b 6).trans (eI _ _ _)).2;simp only[aR,S.vj,hq,mT,D];refine r8 hT a4 ((n.aI k).still st2) (by rw[st2.1];exact hb) ?_;rw[aV];simp only[dS,D];refine ho hT a4 λo Y a5=>?_;simp only[aX,W,D,YO];rw[a5.load,show bT (b5 vars ((s1.cG b 6).cG (!s1.has x.E) 7) loc) 2 1 false=some (M ((s1.cG b 6).cG (!s1.has x.E) 7).lets)from rfl,aW];simp only[D,bD];refine ho hT a5 λm K a6=>?_;exact iA m (k.trans (Y.trans K)) a6
   simp only[mT,D];refine Av ak hT x.E _ _ ?_;simp only[cD];apply ite_bool<;>intro hn
   · refine gi x.E _ _ ?_;simp only[dS,D];refine ho hT a3 λc k a4=>?_;exact ar _ c (by rw[hn];rfl) (kk.trans k) a4
   · refine ho hT a3 λc k a4=>?_;exact ar _ c (by rw[hn];rfl) (kk.trans k) a4
 · rw [ae (by simpa using h)]at iA;apply aF<;>intro au
   · rw[aa (by simpa using au)]at iA;simp only[mT,D];refine r8 hT a3 ((n.aI kk).still st1) (by rw[st1.1];exact hb) ?_;refine ho hT a3 λc k a4=>?_;exact iA c (kk.trans k) a4
   · rw [ae (by simpa using au)]at iA;have O:∀b:Bool,(b=true↔(x.kind=3∨x.kind=4∨x.kind=5∨x.kind=6))→N (S.pU (ai C) (.ptr id 0) (M d) (.af x.cells) Q) [.bool b] T:=by
      intro b L;simp only[aR,S.pU,aE,aB,hq,lJ,oc,D];apply aF<;>intro h
      · rw[aa (L.1 h)]at iA;refine Il ak hT ah hv aj (λp hp i hi=>al i ((aJ.2 p hp).2 i hi)) a3 ((n.aI kk).still st1) (by rw[st1.1];exact hb) λH' k' a'=>?_;exact iA H' (kk.trans k') a'
      · rw[ae λy=>h (L.2 y)]at iA;exact iA T kk a3
     apply aF<;>intro P
     · refine O _ ?_;simp only[bG]at P;simp[P]
     · apply aF<;>intro R
       · refine O _ ?_;simp only[bG]at R;simp[R]
       · apply aF<;>intro r
         · refine O _ ?_;simp only[bG]at r;simp[r]
         · refine O _ ?_;simp only[bG]at P R r;simp[P,R,r]
end
end Rb

namespace Rb
open Go
variable{n k:Int}{p:PL}
theorem sb{n step:Int}(a:0≤n)(b:n≤1000000000)(c:1≤step)(d:step≤1000000):n≤ca n step∧ca n step≤n+step-1:=by rw[Rz a b c d];have e:=Int.mul_ediv_add_emod (n+step-1) step;have f:=acb (n+step-1) (show 0<step by omega);have g:=ab_ (n+step-1) (show step≠0 by omega);rw[acd]at e;omega
def sd(k:Int)(p:PL):Prop:=0≤p.bit∧p.bit≤k*1000000∧0≤p.size∧p.size≤k*1000000∧1≤p.bN∧p.bN≤16
theorem Ir(a:0≤n)(b:n≤1000000000):B (n.tdiv 8)=n/8:=by rw[ace a];exact bI
theorem Be(c:0≤p.bit)(d:p.bit≤(k+1)*1000000)(h:0≤p.size)(i:p.size≤k*1000000)(f:1≤p.bN)(g:p.bN≤16)(j:0≤k)(l:k≤40):sd (k+1) (ly p):=by
 obtain⟨a,b⟩:=sb (n:=p.bit) (step:=8) c (by omega) (by omega) (by omega);have e:B ((ca p.bit 8).tdiv 8)=ca p.bit 8/8:=Ir (by omega) (by omega);refine⟨c,d,?_,?_,f,g⟩
 · show 0≤max p.size _;omega
 · show max p.size (B ((ca p.bit 8).tdiv 8))≤_;rw[e];omega
theorem Ss{packed:Bool}{kind:Int}{q:List (List UInt8)}{f:ay}{g:Int×Int}(hp:sd k p)(c:0≤k)(j:k≤40)(hs:gK packed q f=0)(x:0≤g.1)(y:g.1≤65536)(z:1≤g.2)(A:g.2≤16):sd (k+1) (iu packed kind p f g):=by
 obtain⟨b1,b2,s1,s2,a1,a2⟩:=hp;have hb:f.bits=true→(f.type.size=1∨f.type.size=2∨f.type.size=4∨f.type.size=8)∧0≤f.aN∧f.aN≤64:=by
  intro b;rw[nS]at hs;split at hs
  ·cases hs
  split at hs
  ·cases hs
  split at hs
  ·rename_i hz;exact absurd hs hz
  rename_i hz;split at hs
  ·cases hs
  rename_i hn;split at hs
  ·cases hs
  rename_i hw;have r:f.type.kind=1:=by
   by_cases c:f.type.kind=1
   ·exact c
   ·exact absurd (.inr ⟨b,.inl c⟩) hn
  have d:c6 f.type=0:=by simpa using hz
  have m:f.type.size=1∨f.type.size=2∨f.type.size=4∨f.type.size=8:=by
   rw[gA,r]at d;split at d
   ·cases d
   · simp only[aY]at d;split at d
     · rename_i hp;simp[fh]at hp;omega
     ·cases d
  have C:¬f.aN<0∧¬8*f.type.size<f.aN:=⟨λh=>hw ⟨b,.inl h⟩,λh=>hw ⟨b,.inr (.inl h)⟩⟩
  exact⟨m,by omega,by omega⟩
 have s:1≤eL packed f g.2∧eL packed f g.2≤16:=by
  unfold eL;split
  ·omega
  · split
    · rename_i b;have:=hb b;omega
    ·omega
 unfold iu;simp only;generalize i:({p with bN:=max p.bN (eL packed f g.2),bit:=if kind=4 then 0 else p.bit}:PL)=a;have c1:0≤a.bit:=by rw[←i];show 0≤(if kind=4 then 0 else p.bit);split<;>omega
 have c2:a.bit≤k*1000000:=by rw[←i];show(if kind=4 then 0 else p.bit)≤_;split<;>omega
 have c3:a.size=p.size:=by rw[←i]
 have e:1≤a.bN∧a.bN≤16:=by rw[←i];show 1≤max p.bN _∧max p.bN _≤16;omega
 by_cases b:f.bits=true
 · rw [aa b];obtain⟨m,w1,w2⟩:=hb b;have l:B (8*f.type.size)=8*f.type.size:=bI;obtain⟨t,u⟩:=sb (n:=a.bit) (step:=8*f.type.size) c1 (by omega) (by omega) (by omega);unfold lv;split
   · refine Be ?_ ?_ ?_ ?_ ?_ ?_ c j
     ·show 0≤ca a.bit (B (8*f.type.size));rw[l];omega
     ·show ca a.bit (B (8*f.type.size))≤_;rw[l];omega
     ·show 0≤a.size;omega
     ·show a.size≤_;omega
     ·exact e.1
     ·exact e.2
   · have o1:a.bit≤hX a f∧hX a f≤a.bit+63:=by
       unfold hX;rw[l];split<;>omega
     have o:B (hX a f+f.aN)=hX a f+f.aN:=bI;refine Be ?_ ?_ ?_ ?_ ?_ ?_ c j
     ·show 0≤B (hX a f+f.aN);rw[o];omega
     ·show B (hX a f+f.aN)≤_;rw[o];omega
     ·show 0≤a.size;omega
     ·show a.size≤_;omega
     ·exact e.1
     ·exact e.2
 · rw[ae b];unfold wK;obtain⟨t,u⟩:=sb (n:=a.bit) (step:=8) c1 (by omega) (by omega) (by omega);have e1:B ((ca a.bit 8).tdiv 8)=ca a.bit 8/8:=Ir (by omega) (by omega);obtain⟨v1,v2⟩:=sb (n:=ca a.bit 8/8) (step:=eL packed f g.2) (by omega) (by omega) s.1 (by omega);have v:B (ca (ca a.bit 8/8) (eL packed f g.2)+g.1)=ca (ca a.bit 8/8) (eL packed f g.2)+g.1:=bI;have w:B (8*(ca (ca a.bit 8/8) (eL packed f g.2)+g.1))=8*(ca (ca a.bit 8/8) (eL packed f g.2)+g.1):=bI;rw[e1,v,w];refine Be ?_ ?_ ?_ ?_ ?_ ?_ c j
   ·show 0≤8*(ca (ca a.bit 8/8) (eL packed f g.2)+g.1);omega
   ·show 8*(ca (ca a.bit 8/8) (eL packed f g.2)+g.1)≤_;omega
   ·show 0≤a.size;omega
   ·show a.size≤_;omega
   ·exact e.1
   ·exact e.2
theorem Is{packed:Bool}{kind:Int}:∀{l:List ay}{a:List (List UInt8)}{k:Int}{p q:PL},sd k p→0≤k→k+l.length≤40→fJ packed a l=0 →
  (∀f∈l,c6 f.type=0→(A f.type).2=true→0≤(A f.type).1.1∧(A f.type).1.1≤65536∧1≤(A f.type).1.2∧(A f.type).1.2≤16)→dW packed kind p l=some q→sd 40 q
 | [],a,k,p,q,hp,hk,b,_,_,h=>by simp only[dW,Yh.injEq]at h;subst h;obtain⟨b1,b2,s1,s2,a1,a2⟩:=hp;simp at b;exact⟨b1,by omega,s1,by omega,a1,a2⟩
 | f :: r,a,k,p,q,hp,hk,b,hs,hf,h=>by
  simp only[dW]at h;split at h
  · rename_i c;rw[qb]at c h;have d:gK packed a f=0∧fJ packed (a++[f.E]) r=0:=by
     simp only[fJ]at hs;by_cases hz:gK packed a f=0
     ·rw[ae (by simpa using hz)]at hs;exact⟨hz,hs⟩
     ·rw[aa hz]at hs;exact absurd hs hz
    have e:c6 f.type=0:=rZ hs f (by simp);obtain⟨g1,g2,g3,g4⟩:=hf f (by simp) e c;simp only[abJ]at b;exact Is (k:=k+1) (Ss hp hk (by omega) d.1 g1 g2 g3 g4) (by omega) (by omega) d.2 (λg i=>hf g (by simp[i])) h
  ·cases h
theorem Bf:∀t:T,c6 t=0→(A t).2=true→0≤(A t).1.1∧(A t).1.1≤65536∧1≤(A t).1.2∧(A t).1.2≤16:=by
 refine T.ind λt c d hs h=>?_;rw[lz]at h ⊢;split at h
 · rename_i b;rw[aa b];rw[gA]at hs;split at hs
   ·cases hs
   · have hp:fh t.size 8=true∨fh t.size 16=true:=by
       rcases b with h1|h1
       · rw[aa h1]at hs;split at hs
         ·exact .inl ‹_›
         ·cases hs
       · rw[bC,aa h1]at hs;split at hs
         ·exact .inr ‹_›
         ·cases hs
     show 0≤t.size∧t.size≤65536∧1≤t.size∧t.size≤16;rcases hp with hp|hp<;>(simp[fh]at hp;omega)
 · rename_i b;rw[ae b];split at h
   · rename_i a;rw[aa a];obtain⟨e,he,g⟩:=lu hs a;have hc:1≤t.bg∧t.bg≤65536:=by
      rw[gA,a]at hs;split at hs
      ·cases hs
      · simp at hs;split at hs
        ·cases hs
        ·omega
     rw[he]at h ⊢;simp only[fi,X7]at h ⊢;obtain⟨h,hle⟩:=h;have hle:=of_decide_eq_true hle;obtain⟨g1,g2,g3,g4⟩:=d e (by rw[he];simp) g h;have hm:0≤(A e).1.1*t.bg:=acn g1 (by omega);have l:(A e).1.1*t.bg≤65536*65536:=aco g2 hc.2 (by omega) (by omega);have e1:B ((A e).1.1*t.bg)=(A e).1.1*t.bg:=bI;rw[e1]at hle ⊢;exact⟨hm,hle,g3,g4⟩
   · rename_i a;rw[ae a];cases hp:dW t.packed t.kind ⟨0,1,[],0⟩ t.aD with
     |none=>rw[hp]at h;cases h
     | some p =>
      rw[hp]at h;simp only[dQ]at h ⊢;have i:t.kind=3∨t.kind=4:=by rcases nV hs with h|h|h|h|h<;>omega
      have j:fJ t.packed [] t.aD=0:=by
       rw[gA]at hs;split at hs
       ·cases hs
       · rw [bC,bC,bC]at hs;first
          |exact hs
          | (split at hs
             ·cases hs
             ·exact hs)
      obtain⟨b1,b2,s1,s2,a1,a2⟩:=Is (k:=0) (p:=⟨0,1,[],0⟩) ⟨by decide,by decide,by decide,by decide,by decide,by decide⟩ (by omega) (by have:=(mO hs i).2;omega) j (λf hf=>c f hf) hp;obtain⟨m,o⟩:=sb (n:=p.size) (step:=p.bN) s1 (by omega) a1 (by omega);exact⟨by omega,h,a1,a2⟩
theorem Su{t:T}(h:(aZ t).2=0):0≤(aZ t).1.1∧(aZ t).1.1≤65536∧1≤(aZ t).1.2∧(aZ t).1.2≤16:=by
 unfold aZ at h ⊢;split at h
 ·rename_i hs;exact absurd h hs
 · rename_i hs;split at h
   ·cases h
   · rename_i ht;split at h
     ·cases h
     · rename_i a;rw[ae hs,ae ht,ae a];exact Bf t (fM (by simpa using hs)) (by simpa using a)
def z5:List UInt8:=[122,122,122,122,122]
def w9(a b:ba):Prop:=a=b∨a.bH=6
theorem w9.refl(a:ba):w9 a a:= .inl rfl
theorem w9.bad{a b:ba}(h:a.bH=6):w9 a b:= .inr h
section
variable(vars:List U)(z:U)
variable(kw:List UInt8→Bool)
end
end Rb

namespace Rb
open Go
theorem jI(a b:List I):I.cf (a++b)=I.cf a++I.cf b:=by rw[lk,lk,lk,acA]
mutual
theorem T.gC:∀x:T,I.cf x.cells=x.cells
 | .mk kind size packed aD bg aU=>by simp only[T.cells,I.cf,I.cd,ay.iB aD,T.iB aU]
theorem T.iB:∀xs:List T,I.cf (T.all xs)=T.all xs
 |[]=>rfl
 |x::r=>by rw[T.all,jI,T.gC x,T.iB r]
theorem ay.gC:∀x:ay,I.cf x.cells=x.cells
 | .mk E type bits aN=>by simp only[ay.cells,I.cf,I.cd,jI,T.gC type]
theorem ay.iB:∀xs:List ay,I.cf (ay.all xs)=ay.all xs
 |[]=>rfl
 |x::r=>by rw[ay.all,jI,ay.gC x,ay.iB r]
end
mutual
theorem X.gC:∀x:X,I.cf x.cells=x.cells
 | .mk kind n E op aV place bn=>by simp only[X.cells,I.cf,I.cd,jI,aM.gC place,X.iB bn]
theorem X.iB:∀xs:List X,I.cf (X.all xs)=X.all xs
 |[]=>rfl
 |x::r=>by rw[X.all,jI,X.gC x,X.iB r]
theorem aM.gC:∀x:aM,I.cf x.cells=x.cells
 | .mk var aC=>by simp only[aM.cells,I.cf,I.cd,K.iB aC]
theorem K.gC:∀x:K,I.cf x.cells=x.cells
 | .mk field bb=>by simp only[K.cells,I.cf,I.cd,X.iB bb]
theorem K.iB:∀xs:List K,I.cf (K.all xs)=K.all xs
 |[]=>rfl
 |x::r=>by rw[K.all,jI,K.gC x,K.iB r]
end
theorem w_{α:Type}{cells:α→List I}(h:∀x,I.cf (cells x)=cells x)(xs:List α):(av cells xs).cd=av cells xs:=by
 have:I.cf (xs.flatMap cells)=xs.flatMap cells:=by
  induction xs with
  |nil=>rfl
  |cons x xs a=>rw[abk,jI,h,a]
 simp only[av,I.cd,this]
theorem U.gC(x:U):I.cf x.cells=x.cells:=by simp only[U.cells,I.cf,I.cd,T.gC]
mutual
theorem aw.gC:∀x:aw,I.cf x.cells=x.cells
 | .mk kind V E cg aV place bc be bw=>by simp only[aw.cells,I.cf,I.cd,jI,aM.gC place,w_ X.gC bc,aw.iB be,aw.iB bw]
theorem aw.iB:∀xs:List aw,I.cf (aw.all xs)=aw.all xs
 |[]=>rfl
 |x::r=>by rw[aw.all,jI,aw.gC x,aw.iB r]
end
theorem Sv(l:List aw):I.cf (iS l)=iS l:=by simp only[iS,I.cf,w_ aw.gC]
theorem cA.gC(x:cA):I.cf x.cells=x.cells:=by simp only[cA.cells,I.cf,w_ U.gC,w_ Sv]
section
variable{Φ:aj}{H:Z}{Q:ad}
theorem Sw(hT:Cl Φ S.bu){p:U→Bool}{key:Nat}{bx:List I}{xs:List U}(hf:∀x∈xs,∀(R:ad),R (.bool (p x)) H→Φ key ([.agg x.cells]++bx) H R)(hl:xs.length≤9223372036854775807)
  (hQ:Q (.bool (xs.any p)) H) (a:fB key=none:=by first|assumption|rfl):Φ 97 [av U.cells xs,.fn key bx] H Q:=by
 refine S.Pv hT ?_;unfold S.f97;refine S.wi hT (wE hf hl ?_);simp only[f_,D,rY];exact hQ
theorem Sx{w:U}{id:Nat}{v:U}(a:At H id (.row v.cells))(hQ:Q (.bool (w.E==v.E)) H):S.f98 Φ (.agg w.cells) (.ptr id 0) H Q:=by
 unfold S.f98;have hb:aK H false 7 (.agg w.cells)=some (.af w.cells,H):=by unfold aK;rw[aa ⟨rfl,w.len⟩];rfl
 have l0:O H 1 false (.af (w.cells.drop 0))=some (.str w.E):=p_ w;have l1:O H 1 false (.ptr id 0)=some (.str v.E):=by rw[a.load];exact p_ v
 rw[hb];simp only[aP,W,D,l0,YD,l1,jj];exact hQ
end
section
variable{C:Ctx}(ak:bP C)(hT:Cl (ai C) S.bu){kw:List UInt8→Bool}(gi:∀x,bE (ai C) 96 [.str x] (.bool (kw x)))
include ak hT gi
theorem Sy{vars:List U}(hv:∀v∈vars,v.ok){H:Z}{Q:ad}(hQ:∀H',Q (M (lG kw vars)) H'):S.f63 (ai C) (av U.cells vars) H Q:=by
 have fin:∀z H',z=lG kw vars→Q (M z) H':=λz H' h=>by rw[h];exact hQ H'
 clear hQ;unfold S.f63;simp only[cO,D,eu,aB];unfold lG at fin;apply aF<;>intro h
 ·exact fin _ _ (by rw[aa (by simp only[dQ,gt_iff_lt]at h;omega)])
 · have hl : vars.length≤32:=by simp only[dQ,gt_iff_lt]at h;omega
   rw[bC]at fin;have main:∀(r:List U)(i:Nat)(a:Int)(H1:Z),vars.drop i=r→lD kw ((vars.take i).map U.E) a r=lD kw [] 0 vars →
     aA (S.pQ (ai C) (av U.cells vars) (M vars.length) Q) ([M a,M i],H1):=by
    intro r;induction r with
    | nil=>
     intro i a H1 d he;have hle:=ek d;refine aA.step ?_;simp only[S.pQ,aE,cW,bD,D,aB];rw[ee];simp only[aR,S.E9,aE,eu,D,aB];rw[lD]at he;apply aF<;>intro h
     ·exact fin _ _ (by rw[←he,aa (by simpa using h)])
     ·exact fin _ _ (by rw[←he,ae (by simpa using h)])
    | cons v r l=>
     intro i a H1 d he;obtain⟨g,e,m⟩:=ed d;have o:=aaN e;refine aA.step ?_;simp only[S.pQ,aE,cW,bD,D,aB];rw[dU,cK g];simp only[D];rw[dz U.len (by decide) _ e];simp only[D,aP,aJ,aY];rw[cM _ _ _ 7 v.len v.scalar rfl];simp only[D,W,YO,YD];have f:=At.new H1 (.row v.cells);generalize H1.push (.row v.cells)=H2 at *;generalize H1.n=c at *;have l0:O H2 1 false (.ptr c 0)=some (.str v.E):=by rw[f.load];exact p_ v
     have l1:O H2 6 true (.ptr c 1)=some (.agg v.type.cells):=by rw[f.load,QW (by rw[v.len];omega)];show bT (v.cells.drop 1) 0 6 true=_;exact gJ v.type.len
     simp only[l0,D];rw[lD]at he;have k2:¬(fg v.E=false∨kw v.E=true)→¬((vars.take i).map U.E).contains v.E=true →
       N (S.zO (ai C) (.ptr c 0) ([M a,M i],H1) (aA (S.pQ (ai C) (av U.cells vars) (M vars.length) Q)) Q) [] H2:=by
      intro n1 n2;rw[ae n1,ae n2]at he;simp only[aR,S.zO,W,YO,D,l1];refine wQ ak hT v.type (hv v o).2 _ _ ?_;simp only[bh,abp,abq,D,dZ,aB];apply aF<;>intro h
      · rw[aa (by simpa using h)]at he;exact fin _ _ he
      · have j:(aZ v.type).2=0:=by simpa using h
        rw[ae (by simpa using j)]at he;have hb:=Su j;simp only[aE,b4,fZ,jF,D];rw[mb _ _ _ (by omega)];simp only[D,jF,b4,aR,S.E8,aE,cW];rw[wrap_i64 (n:=(i:Int)+1) (by omega) (by omega),iT i];refine l (i+1) _ H2 m ?_;rw[←he,abR,e];simp[ca]
     have k:∀b:Bool,(b=true↔(fg v.E=false∨kw v.E=true))→N (S.uV (ai C) (av U.cells vars) (.ptr c 0) ([M a,M i],H1) (aA (S.pQ (ai C) (av U.cells vars) (M vars.length) Q)) Q) [.bool b] H2:=by
      intro b hb;simp only[aR,S.uV,aE,cW,aB];apply aF<;>intro h
      · rw[aa (hb.1 h)]at he;exact fin _ _ he
      · have n1:¬(fg v.E=false∨kw v.E=true):=λy=>h (hb.2 y);rw[Hw U.len (acB g)];simp only[D];refine Sw hT (p:=λw=>w.E==v.E) (λw _ R q=>S.Pw hT (Sx f q)) (by rw[ab3];omega) ?_;simp only[aB];have hc:((vars.take i).any λw=>w.E==v.E)=true↔((vars.take i).map U.E).contains v.E=true:=by
         rw[aaB,List.contains_iff_mem,aaE];simp only[bG]
        apply aF<;>intro h
        · rw[ae n1,aa (hc.1 h)]at he;exact fin _ _ he
        ·exact k2 n1 λy=>h (hc.2 y)
     refine Av ak hT v.E _ _ ?_;simp only[dS,D,cv];apply iz<;>intro h
     · simp only[l0,D];refine gi v.E _ _ ?_;refine k _ ?_;simp only[Bool.not_eq_false']at h;simp[h]
     · refine k _ ?_;simp only[Z_]at h;simp[h]
   exact main vars 0 0 H rfl rfl
def It(r:Int×Int):I:= .agg [M r.1,M r.2]
theorem Sz(p:cA)(hp:p.ok):bE (ai C) 36 [.agg p.cells] (It (fN kw p)):=by
 obtain⟨⟨A,hv⟩,ac,ht⟩:=hp;refine bE.of ak (by simp[I.bA,I.a_,cA.a_]) rfl λQ hQ=>S.OZ hT ?_;have fin:∀(a b:Int) H',(a,b)=fN kw p→Q (.agg [M a,M b]) H':=λa b H' h=>by have:=hQ H';rw[←h]at this;exact this
 clear hQ;have B:aK Z.mt false 2 (.agg p.cells)=some (.af p.cells,Z.mt):=by unfold aK;rw[aa ⟨rfl,rfl⟩];rfl
 have g:∀H,O H 1 false (.af (p.cells.drop 0))=some (av U.cells p.vars):=λ_=>rfl;have j:∀H,O H 1 false (.af (p.cells.drop 1))=some (av iS p.dj):=λ_=>rfl;unfold S.f36;simp only[B,aP,aJ,aY,W,D,g,cO,eu,cv];generalize ad:Z.mt=H0;have k:=At.new H0 (.row [J,J]);generalize H0.push (.row [J,J])=f at *;generalize H0.n=d at *;have out:∀(a b:Int)(H1:Z),At H1 d (.row [J,J])→(a,b)=fN kw p→Do (Y H1 2 (.ptr d 0) (.agg [M a,M b])) λH2=>Do (O H2 2 true (.ptr d 0)) λx=>Q x H2:=by intro a b H1 ha he;rw[ha.put (n:=2) rfl rfl rfl];simp only[D];rw[(ha.set _).all (n:=2) rfl];simp only[D];exact fin a b _ he
 unfold fN at out;have E : ¬(32<p.vars.length∨p.dj.length<1∨8<p.dj.length)→N (S.zN (ai C) (.af p.cells) (.ptr d 0) Q) [] f:=by
  intro hn;rw[ae hn]at out;simp only[aR,S.zN,W,D,g];refine bE.of ak (by simp[I.bA,j4 U.a_]) rfl (λag F=>S.Pc hT (Sy ak hT gi hv F)) _ _ ?_;simp only[dZ,D,aB];apply aF<;>intro h
  · rw[aa (by simpa using h)]at out;rw[show bm [J,J] [(1,1,M (lG kw p.vars))]=some (.agg [J,M (lG kw p.vars)])from rfl];simp only[D];exact out 0 _ f k rfl
  · rw [ae (by simpa using h)]at out;simp only[j,D,cO];have main:∀(r:List (List aw)) (i:Nat) (H1:Z),p.dj.drop i=r→At H1 d (.row [J,J])→mQ kw p.vars r=mQ kw p.vars p.dj →
      aA (S.uN (ai C) (.af p.cells) (.ptr d 0) (av iS p.dj) (M p.dj.length) Q) ([M i],H1):=by
     intro r;induction r with
     | nil=>intro i H1 m ha he;have hle:=ek m;refine aA.step ?_;simp only[S.uN,aE,bD,D,aB];rw[ee];simp only[aR,S.EJ];rw[show bm [J,J] []=some (.agg [J,J])from rfl];simp only[D];exact out 0 0 H1 ha he
     | cons t r G=>
      intro i H1 m ha he;obtain⟨K,q,L⟩:=ed m;obtain⟨ah,P⟩:=ht t (aaN q);refine aA.step ?_;simp only[S.uN,aE,bD,D,aB];rw[dU,cK K];simp only[D];have R:O H1 1 false (dE iS 1 p.dj i)=some (av aw.cells t):=wu (c:=λl=>av aw.cells l) H1 q;rw[R];simp only[D,W,g];rw[show bm [aQ,aQ,J,J,J,J] [(0,1,av U.cells p.vars)]=some (.agg (b5 p.vars s0 aQ))from rfl];simp only[D];have hb:aK H1 true 6 (.agg (b5 p.vars s0 aQ))=some (.ptr H1.n 0,H1.push (.row (b5 p.vars s0 aQ))):=by unfold aK;rw[aa ⟨rfl,rfl⟩];rfl
      rw[hb];simp only[aP];have T:=At.new H1 (.row (b5 p.vars s0 aQ));have V:d≠H1.n:=ha.lr;have a3:=ha.push (.row (b5 p.vars s0 aQ));generalize H1.push (.row (b5 p.vars s0 aQ))=H2 at *;generalize H1.n=id at *;have hm:=od;refine Bd ak hT (kw:=kw) (by omega) (λx X=>Sr ak hT A hv gi x (P x X)) (s:=s0) ⟨by decide,by decide,by decide⟩ T (.inl ⟨rfl,rfl⟩) λu ab f5 a5 aj=>?_;have v:=f5.2.1 d _ V (λn e=>by cases e) a3;rw[mQ]at he;generalize h0 p.vars kw s0 1 t=o at *;refine S.nN hT (oa a5 ?_);simp only[aB];apply aF<;>intro h
      · rw[aa (by simpa using h)]at he;simp only[aX,W,D,YO];rw[a5.load,show bT (b5 p.vars o ab) 4 2 true=some (.agg [M o.lB,M o.bH])from rfl];simp only[D];exact out _ _ u v he
      · rw[ae (by simpa using h)]at he;simp only[b4,D];rw[bI,iT i];exact G (i+1) u L v he
    exact main p.dj 0 f rfl k rfl
 have w:∀b:Bool,(b=true↔(32<p.vars.length∨p.dj.length<1∨8<p.dj.length))→N (S.uO (ai C) (.af p.cells) (.ptr d 0) Q) [.bool b] f:=by
  intro b hb;simp only[aR,S.uO,aE,aB];apply aF<;>intro h
  · rw[aa (hb.1 h)]at out;rw[show bm [J,J] [(1,1,M 12)]=some (.agg [J,M 12])from rfl];simp only[D];exact out 0 12 f k rfl
  ·exact E λy=>h (hb.2 y)
 have z:∀b:Bool,(b=true↔(32<p.vars.length∨p.dj.length<1))→N (S.uP (ai C) (.af p.cells) (.ptr d 0) Q) [.bool b] f:=by
  intro b hb;simp only[aR,S.uP,aE,cv,W,D,j,cO,eu];apply iz<;>intro h
  · refine w _ ?_;have hn:¬(32<p.vars.length∨p.dj.length<1):=λy=>by have:=hb.2 y;rw[h]at this;cases this
    simp only[dQ,gt_iff_lt];omega
  · refine w _ ?_;have:=hb.1 h;simp only[true_iff];omega
 apply iz<;>intro h
 · simp only[j,D,cO,bD];refine z _ ?_;simp only[decide_eq_false_iff_not,gt_iff_lt]at h;simp only[dQ];omega
 · refine z _ ?_;simp only[dQ,gt_iff_lt]at h;simp only[true_iff];omega
end
end Rb

namespace Rb
open Go
section
variable{H:Z}{id:Nat}
theorem Iu{e:K}(h:At H id (.row e.cells)):O H 1 false (.ptr id 1)=some (av X.cells e.bb):=by rw[h.load,K.bF];rfl
end
theorem qh(x:aM)(H:Z):aK H false 2 (.agg x.cells)=some (.af x.cells,H):=by unfold aK;rw[aa ⟨rfl,x.len⟩];rfl
theorem Bg(x:aM)(i:Nat):W i (.af x.cells)=some (.af (x.cells.drop i)):=rfl
theorem Bh(x:aM)(H:Z):O H 1 false (.af (x.cells.drop 0))=some (.str x.var):=by rw[aM.bF];rfl
theorem se(x:aM)(H:Z):O H 1 false (.af (x.cells.drop 1))=some (av K.cells x.aC):=by rw[aM.bF];rfl
theorem xb(x:aM)(H:Z):O H 2 true (.af x.cells)=some (.agg x.cells):=gJ x.len
section
variable{C:Ctx}(ak:bP C)(hT:Cl (ai C) S.bu)
include ak hT
end
end Rb

namespace Rb
open Go
variable{s s':RS}
structure Kp(s s':RS):Prop where
 aS:s'.aS=s.aS
 pr:s'.pr=s.pr
 V:s'.V=s.V
 st:s.stop=true→s'=s
 fu:0≤s.fuel→s.fuel≤1000000→s'.stop=false→0≤s'.fuel∧s'.fuel≤s.fuel
theorem Kp.refl(s:RS):Kp s s:=⟨rfl,rfl,rfl,λ_=>rfl,λh _ _=>⟨h,ach _⟩⟩
theorem Kp.stop(h:Kp s s')(a:s'.stop=false):s.stop=false:=by
 cases hs:s.stop with
 |false=>rfl
 |true=>rw[h.st hs,hs]at a;cases a
theorem Kp.trans{a b c:RS}(h:Kp a b)(k:Kp b c):Kp a c where
 aS:=k.aS.trans h.aS
 pr:=k.pr.trans h.pr
 V:=k.V.trans h.V
 st:=λe=>by have e1:=h.st e;rw[e1]at k;exact k.st e
 fu:=λf h1 d=>by have hb:=k.stop d;have x:=h.fu f h1 hb;have y:=k.fu x.1 (by omega) d;exact⟨y.1,by omega⟩
section
variable(vars:List U)
end
structure Ks(s s':RS):Prop where
 pr:s.pr <+: s'.pr
 st:s.stop=true→s'=s
 fu:0≤s.fuel→s.fuel≤1000000→s'.stop=false→0≤s'.fuel∧s'.fuel≤s.fuel
theorem Kp.ks(h:Kp s s'):Ks s s':=⟨by rw[h.pr];exact List.prefix_refl _,h.st,h.fu⟩
theorem Ks.refl(s:RS):Ks s s:=(Kp.refl s).ks
theorem Ks.stop(h:Ks s s')(a:s'.stop=false):s.stop=false:=by
 cases hs:s.stop with
 |false=>rfl
 |true=>rw[h.st hs,hs]at a;cases a
theorem Ks.trans{a b c:RS}(h:Ks a b)(k:Ks b c):Ks a c where
 pr:=h.pr.trans k.pr
 st:=λe=>by have e1:=h.st e;rw[e1]at k;exact k.st e
 fu:=λf h1 d=>by have hb:=k.stop d;have x:=h.fu f h1 hb;have y:=k.fu x.1 (by omega) d;exact⟨y.1,by omega⟩
section
variable(vars:List U)
theorem SA(s:RS)(x:List UInt8)(v:Int):(s.put x v).pr=s.pr∧(s.put x v).fuel=s.fuel∧(s.put x v).stop=s.stop∧(s.put x v).dG=s.dG∧(s.put x v).V=s.V∧(s.put x v).fin=s.fin∧(s.put x v).want=s.want∧(s.put x v).empty=s.empty:=by unfold RS.put;split<;>exact⟨rfl,rfl,rfl,rfl,rfl,rfl,rfl,rfl⟩
variable(c:Nat)
end
end Rb

namespace Rb
open Go
def SB(a:Int×Int):List I:=[bY a.1,bY a.2]
def sf(l:List UInt8×Int):List I:=[.str l.1,bY l.2]
def xc(vars:List U)(s:RS)(lx px:I):List I:=av U.cells vars::av SB s.dG::lx::px :: M s.V :: M s.fuel :: M s.fin::(s.want.cells++[.bool s.stop,.bool s.empty])
def ka(H:Z)(id:Nat)(L:List (List UInt8×Int))(x:I):Prop:=(x = aQ∧L=[])∨∃j cs m,x = .row j 0 L.length 2∧j≠id∧At H j (.row cs)∧cs.length=m*2∧L.length≤m∧cs.take (L.length*2)=L.flatMap sf
theorem ka.aI{H H':Z}{id:Nat}{L:List (List UInt8×Int)}{x:I}(h:ka H id L x)(k:b7 id H H'):ka H' id L x:=by
 rcases h with h|⟨j,cs,m,h1,a,b,c⟩
 ·exact .inl h
 ·exact .inr ⟨j,cs,m,h1,a,k.2 j _ a b,c⟩
structure RS.ok(s:RS):Prop where
 dG:∀x∈s.dG,ma x.1∧ma x.2
 aS:∀l∈s.aS,ma l.2
theorem SC:ma 0:=⟨by decide,by decide⟩
theorem RS.ok.get{s:RS}(h:s.ok)(x:List UInt8):ma (s.get x):=by
 unfold RS.get;split
 · rename_i l hl;exact h.aS l (List.mem_of_find?_eq_some hl)
 ·exact SC
theorem RS.ok.put{s:RS}(h:s.ok)(x:List UInt8){v:Int}(hv:ma v):(s.put x v).ok:=by
 unfold RS.put;split
 · refine⟨h.dG,λl hl=>?_⟩;rcases List.mem_or_eq_of_mem_set hl with hl|rfl
   ·exact h.aS l hl
   ·exact hv
 ·exact h
section
variable(vars:List U)
end
section
variable{vars:List U}{s:RS}{lx px:I}{H:Z}{id:Nat}(h:At H id (.row (xc vars s lx px)))
include h
end
end Rb

namespace Rb
open Go
section
variable{Φ:aj}{H:Z}{Q:ad}
end
section
variable{C:Ctx}(ak:bP C)(hT:Cl (ai C) S.bu)
include ak hT
variable{vars:List U}{s:RS}{lx px:I}{H:Z}{id:Nat}{Q:ad}
end
end Rb

namespace Rb
open Go
theorem Bi{m:Nat}:∀{l:List ay}{f:ay},f∈l→dF m f.type≤fa m l
 | g::r,f,h=>by
  rw[fa];rcases aan.1 h with rfl|h
  ·rw[wB];omega
  ·have:=Bi (m:=m) h;omega
theorem Bj{m:Nat}:∀{l:List T}{f:T},f∈l→dF m f≤eS m l
 | g::r,f,h=>by
  rw[eS];rcases aan.1 h with rfl|h
  ·omega
  ·have:=Bj (m:=m) h;omega
theorem Iv{m k:Nat}:∀{l:List ay},(∀f∈l,dF m f.type=dF k f.type)→fa m l=fa k l
 |[],_=>by rw[fa,fa]
 |g::r,h=>by rw[fa,fa,wB,wB,h g (aap ..),Iv λf hf=>h f (aao _ hf)]
theorem Iw{m k:Nat}:∀{l:List T},(∀f∈l,dF m f=dF k f)→eS m l=eS k l
 |[],_=>by rw[eS,eS]
 |g::r,h=>by rw[eS,eS,h g (aap ..),Iw λf hf=>h f (aao _ hf)]
theorem SD:∀(t:T)(m:Nat),dF m t<m→dF (m+1) t=dF m t:=by
 refine T.ind λt a b m h=>?_;rw[p9]at h;by_cases h1:1<m
 · rw [aa h1]at h;rw[p9,p9,cY,aa h1,Nat.add_sub_cancel];have e1:fa m t.aD=fa (m-1) t.aD:=Iv λf hf=>by
    have:=Bi (m:=m-1) hf;have:=a f hf (m-1) (by omega);rw[show m-1+1=m by omega]at this;exact this
   have c:eS m t.aU=eS (m-1) t.aU:=Iw λf hf=>by have:=Bj (m:=m-1) hf;have:=b f hf (m-1) (by omega);rw[show m-1+1=m by omega]at this;exact this
   rw[e1,c]
 ·rw[ae h1]at h;omega
theorem Ix{t u:T}(h:eg t=0)(a:(∃f∈t.aD,f.type=u)∨u∈t.aU)(hs:c6 u=0):eg u=0:=by
 have b:¬64<dF 65 t:=by intro e;unfold eg at h;rw[aa e]at h;cases h
 rw[p9,kE]at b;have:dF 64 u≤63:=by
  rcases a with⟨f,hf,rfl⟩|a
  · have:=Bi (m:=64) hf;simp only[show 65-1=64 from rfl]at b;omega
  · have:=Bj (m:=64) a;simp only[show 65-1=64 from rfl]at b;omega
 have e:=SD u 64 (by omega);unfold eg;rw[ae (by rw[show(65:Nat)=64+1 from rfl,e];omega),hs]
theorem Bl{packed:Bool}{kind:Int}:∀{l:List ay}{p q:PL},dW packed kind p l=some q→(∀f∈l,(A f.type).2=true)∧q.du.length=p.du.length+l.length
 | [],p,q,h=>by simp only[dW,Yh.injEq]at h;subst h;exact⟨λf hf=>(by cases hf),rfl⟩
 | f :: r, p,q,h=>by
  simp only[dW,qb]at h;by_cases h1:(A f.type).2=true
  · rw [aa h1]at h;obtain⟨b,c⟩:=Bl h;refine⟨λg a=>?_,?_⟩
    · rcases aan.1 a with rfl|a
      ·exact h1
      ·exact b g a
    · have hl:(iu packed kind p f (A f.type).1).du.length=p.du.length+1:=by
        unfold iu;dsimp only;split
        · unfold lv;split<;>simp[ly]
        ·simp[ly,wK]
      rw[c,hl,abJ];omega
  ·rw[ae h1]at h;cases h
structure T.lay(t:T):Prop where
 ok:t.ok
 snd:eg t=0
 Bm:gb t=false
 of:(A t).2=true
theorem oe{t:T}(c:t.ok)(h:(aZ t).2=0):t.lay:=by
 unfold aZ at h;by_cases h1:eg t≠0
 ·rw[aa h1]at h;exact absurd h h1
 · rw [ae h1]at h;by_cases a:gb t=true
   · rw[aa a]at h;have:(10:Int)=0:=h;omega
   · rw [ae a]at h;by_cases b:(A t).2=false
     · rw[aa b]at h;have:(9:Int)=0:=h;omega
     ·exact⟨c,by omega,by simpa using a,by simpa using b⟩
theorem T.lay.zero{t:T}(h:t.lay):aZ t=((A t).1,0):=by unfold aZ;rw[ae (by rw[h.snd];decide),ae (by rw[h.Bm];decide),ae (by rw[h.of];decide)]
theorem T.sg{t:T}(h:t.ok):(∀f∈t.aD,f.type.ok)∧(∀e∈t.aU,e.ok)∧t.aD.length≤9223372036854775807:=by
 cases t with
 | mk kind size packed aD bg aU=>obtain⟨_,_,h1,a,_,c,b⟩:=h;refine⟨λf hf=>?_,T.dY.1 b,by rw[←od];exact h1⟩;have:=ay.dY.1 a f hf;cases f;exact this.2.1
theorem xd{t e:T}(h:t.lay)(c:t.kind=5)(a:e∈t.aU):e.lay:=by
 have hs:=fM h.snd;obtain⟨f,d,g⟩:=lu hs c;have i:e=f:=by rw[d]at a;simpa using a
 subst i;refine⟨(T.sg h.ok).2.1 e a,Ix h.snd (.inr a) g,?_,?_⟩
 · have ht:=h.Bm;cases t with
   | mk kind size packed aD bg aU=>rw[gb]at ht;simp only[aaq]at ht;have:=ht.1.2;rw[AB,acC]at this;simpa using this e a
 · have b:=h.of;rw[lz,bC,aa c,d]at b;simp only[fi,X7]at b;exact b.1
theorem qi{t:T}(h:t.lay)(b:t.kind=3∨t.kind=4):∃p,dW t.packed t.kind ⟨0,1,[],0⟩ t.aD=some p∧ca p.size p.bN≤65536∧p.du.length=t.aD.length:=by
 have a:=h.of;rw[lz,bC,bC]at a;cases hp:dW t.packed t.kind ⟨0,1,[],0⟩ t.aD with
 |none=>rw[hp]at a;cases a
 | some p=>rw[hp]at a;refine⟨p,rfl,by simpa using a,?_⟩;have:=(Bl hp).2;simpa using this
theorem og{t:T}{f:ay}(h:t.lay)(a:t.kind=3∨t.kind=4)(hf:f∈t.aD):f.type.lay:=by
 have hs:=fM h.snd;obtain⟨p,hp,_⟩:=qi h a;refine⟨(T.sg h.ok).1 f hf,Ix h.snd (.inl ⟨f,hf,rfl⟩) ((mO hs a).1 f hf),?_,(Bl hp).1 f hf⟩;have ht:=h.Bm;cases t with
 | mk kind size packed aD bg aU=>rw[gb]at ht;simp only[aaq]at ht;have:=ht.2;rw[AD,acC]at this;simpa using this f hf
theorem Iy{t:T}(h:t.lay)(a:t.kind=3∨t.kind=4):(cH t).length=t.aD.length:=by obtain⟨p,hp,_,hl⟩:=qi h a;unfold cH;rw[hp];exact hl
theorem si{t:T}{p:K}(h:t.lay)(a:(db t p).1=0) :
  (p.bb.length=1∧t.kind=5∧∃e r,t.aU=e::r∧db t p=(0,e)∧e.lay) ∨
  (p.bb=[]∧(t.kind=3∨t.kind=4)∧∃n f s,t.aD.findIdx? (λf=>f.E==p.field)=some n∧t.aD[n]?=some f∧(cH t)[n]?=some s∧db t p=(0,f.type)∧f.type.lay):=by
 unfold db at a ⊢;by_cases c1:1<p.bb.length∨(p.bb.length=1↔p.field≠[])
 · rw[aa c1]at a;have:(8:Int)=0:=a;omega
 rw[ae c1]at a;by_cases c2:p.bb.length=1∧t.kind=5
 · rw [aa c2]at a;left;cases he:t.aU with
   | nil=>rw[he]at a;have:(8:Int)=0:=a;omega
   |cons e r=>exact⟨c2.1,c2.2,e,r,rfl,by rw[ae c1,aa c2],xd h c2.2 (by rw[he];exact aap ..)⟩
 rw[ae c2]at a;by_cases c3:p.bb.length=1∨¬(t.kind=3∨t.kind=4)
 · rw[aa c3]at a;have:(8:Int)=0:=a;omega
 rw[ae c3]at a;have hk:t.kind=3∨t.kind=4:=by omega
 right;rcases nT (λf:ay=>f.E==p.field) t.aD with⟨i,f,h1,b,c⟩|⟨h1,b⟩
 · have d:=(X1.1 c).1;have hl:i<(cH t).length:=by rw[Iy h hk];exact d
   refine⟨Zo.1 (by omega),hk,i,f,(cH t)[i],h1,c,YU hl,?_,og h hk (aaN c)⟩;rw[ae c1,ae c2,ae c3,b]
 · rw[b]at a;have:(6:Int)=0:=a;omega
end Rb

namespace Rb
open Go
variable{vars:List U}{v:U}
def ea:List U→List bp→List I
 |v::r,s::t=> .str v.E :: M s.at_ :: M s.len::ea r t
 |_,_=>[]
theorem Iz:∀(a:List U)(s:List bp)(v:U)(g:bp),a.length=s.length→ea (a++[v]) (s++[g])=ea a s++[.str v.E,M g.at_,M g.len]
 |[],[],v,g,_=>rfl
 | x::a,y::s,v,g,h=>by rw[ZY,ZY,ea,ea,Iz a s v g (by simpa using h)];rfl
theorem IA:∀(a:List U)(s:List bp),I.cf (ea a s)=ea a s
 |v::r,s::t=>by rw[ea,I.cf,I.cf,I.cf,IA r t];rfl
 |[],[]=>rfl
 |[],_::_=>rfl
 |_::_,[]=>rfl
theorem IB:∀(a:List U)(s:List bp),I.bA (ea a s)=true
 |v::r,s::t=>by rw[ea];simp only[I.bA,I.a_,IB r t];rfl
 |[],[]=>rfl
 |[],_::_=>rfl
 |_::_,[]=>rfl
def kc(vars:List U):I:=if(mapM vars).1≠0 then .ar [.aq .dead 0 [],J,M (mapM vars).1]else .ar [.aq .dead vars.length (ea vars (mapM vars).2.2),M (mapM vars).2.1,J]
def oh(a:Int)(v:U):Int:=if B (B (ab8 (B (B (a+(aZ v.type).1.2)-1)) (aZ v.type).1.2)*(aZ v.type).1.2)>65536 then 65537 else B (B (ab8 (B (B (a+(aZ v.type).1.2)-1)) (aZ v.type).1.2)*(aZ v.type).1.2)
theorem IC(v:U)(r:List U)(a:Int)(b:List bp):eH (v::r) a b=if(aZ v.type).2≠0 then((aZ v.type).2,0,[])else eH r (B (oh a v+(aZ v.type).1.1)) (b++[⟨B (65536+oh a v),(aZ v.type).1.1,0,false,0,0⟩]):=rfl
theorem SE(h:(eH vars 0 []).1≠0):kc vars = .ar [.aq .dead 0 [],J,M (eH vars 0 []).1]:=by
 have e:mapM vars=((eH vars 0 []).1,0,[]):=by unfold mapM;rw[aa h]
 unfold kc;rw[e];exact aa h
theorem SF(h:(eH vars 0 []).1=0)(a:(eH vars 0 []).2.1>65536):kc vars = .ar [.aq .dead 0 [],J,M 9]:=by
 have e:mapM vars=(9,0,[]):=by unfold mapM;rw[bC,aa a]
 unfold kc;rw[e];exact aa (show(9:Int)≠0 by decide)
theorem SG(h:(eH vars 0 []).1=0)(a:¬(eH vars 0 []).2.1>65536):kc vars = .ar [.aq .dead vars.length (ea vars (eH vars 0 []).2.2),M (eH vars 0 []).2.1,J]:=by
 have e:mapM vars=eH vars 0 []:=by unfold mapM;rw[bC,ae a]
 unfold kc;rw[e];exact bC
theorem ID:∀(l:List U)(at':Int)(acc:List bp),(eH l at' acc).1=0→(eH l at' acc).2.2.length=acc.length+l.length∧∀v∈l,(aZ v.type).2=0
 |[],at',acc,_=>⟨rfl,λv hv=>(by cases hv)⟩
 | v :: r,at',acc,h=>by
  unfold eH at h ⊢;by_cases h1:(aZ v.type).2≠0
  ·rw[aa h1]at h;exact absurd h h1
  · rw[ae h1]at h ⊢;obtain⟨a,b⟩:=ID r _ _ h;refine⟨by rw[a];simp;omega,λu hu=>?_⟩;rcases aan.1 hu with rfl|hu
    ·omega
    ·exact b u hu
theorem SH(h:(mapM vars).1=0):(mapM vars).2.2.length=vars.length∧∀v∈vars,(aZ v.type).2=0:=by
 unfold mapM at h ⊢;by_cases h1:(eH vars 0 []).1≠0
 ·rw[aa h1]at h;exact absurd h h1
 · rw [ae h1]at h ⊢;by_cases a:(eH vars 0 []).2.1>65536
   · rw[aa a]at h;have:(9:Int)=0:=h;omega
   · rw[ae a]at h ⊢;obtain⟨b,c⟩:=ID vars 0 [] h;exact⟨by simpa using b,c⟩
section
variable{H:Z}{id:Nat}
theorem SI(h:At H id (.row v.cells)):O H 1 false (.ptr id 0)=some (.str v.E):=by rw[h.load];cases v;rfl
theorem IE(h:At H id (.row v.cells)):O H 6 true (.ptr id 1)=some (.agg v.type.cells):=by
 rw[h.load];cases v with
 | mk E type=>show bT (.str E::type.cells) 1 6 true=_;unfold bT;rw[aa (by rw[abJ,type.len];omega),aa rfl];show some (I.agg (type.cells.take 6))=_;rw[abM (by rw[type.len];omega)]
end
section
variable{C:Ctx}(ak:bP C)(hT:Cl (ai C) S.bu)
include ak hT
theorem Bn(hl:vars.length≤1000000)(hv:∀v∈vars,v.ok):bE (ai C) 15 [av U.cells vars] (kc vars):=by
 refine bE.of ak (by simp[I.bA,j4 U.a_]) (by
   unfold kc;split
   ·rfl
   ·simp[I.a_,I.bA,IB,Tok.free]) λQ hQ=>?_
 refine ai.cd ?_;refine S.OP hT ?_;unfold S.f15;simp only[cO,D];have main:∀(r:List U)(k:Nat)(at':Int)(acc:List bp)(x:I)(H:Z),vars.drop k=r→k≤vars.length→acc.length=k→cC 0 H 3 x k (ea (vars.take k) acc)→eH r at' acc=eH vars 0 [] →
   aA (S.rF (ai C) (av U.cells vars) (M vars.length) λv H'=>Q v.cd H') ([x,M at',M k],H):=by
  intro r;induction r with
  | nil=>
   intro k at' acc x H e hk ha c he;have hle:=ek e;have o:k=vars.length:=by omega
   subst o;rw[abA]at c;refine aA.step ?_;simp only[S.rF,aE,cW,bD,D,aB,aR,S.Ev,eu];rw[lS];have e1:(eH vars 0 []).1=0:=by rw[←he];rfl
   have f:(eH vars 0 []).2.1=at':=by rw[←he];rfl
   have p:(eH vars 0 []).2.2=acc:=by rw[←he];rfl
   obtain⟨tk,rfl,_,_⟩:=c;apply aF<;>intro h
   · rw[SF e1 (by rw[f];simpa using h)]at hQ;exact hQ _
   · rw[SG e1 (by rw[f];simpa using h),f,p]at hQ;have:=hQ H;simp only[I.cd,I.cf,IA];exact this
  | cons v r s=>
   intro k at' acc x H e hk ha c he;obtain⟨j,g,t⟩:=ed e;have u:=hv v (aaN g);have l:v.type.ok:=by cases v;exact u.2
   refine aA.step ?_;simp only[S.rF,aE,cW,bD,D,aB];rw[dU,cK j];simp only[D];rw[dz U.len (by decide) _ g];simp only[D,aP,aJ,aY];rw[cM _ _ _ 7 v.len v.scalar rfl];have a2:=At.new H (.row v.cells);have w:cC 0 (H.push (.row v.cells)) 3 x k (ea (vars.take k) acc):=c.frame λ_ _ _ q=>q.push _;simp only[D,W,YO];rw[IE a2];simp only[D];generalize H.push (.row v.cells)=H2 at *;refine wQ ak hT v.type l _ _ ?_;simp only[bh,abp,abq,D,dZ,aB];rw[IC]at he;apply aF<;>intro h
   · have d:(aZ v.type).2≠0:=by simpa using h
     rw[aa d]at he;rw[SE (by rw[←he];exact d),←he]at hQ;exact hQ H2
   · have d:¬(aZ v.type).2≠0:=by simpa using h
     rw[ae d]at he;have K:1≤(aZ v.type).1.2:=by have i:=oe l (by omega);rw[i.zero];exact wO _ (fM i.snd) i.of
     simp only[b4,fZ,D,mb _ _ _ (show(aZ v.type).1.2≠0 by omega),jF,eu,aB,aR];have k2:∀y:Int,y=oh at' v →
       S.uI (ai C) (.ptr H.n 0) (M (aZ v.type).1.1) ([x,M at',M k],H) (aA (S.rF (ai C) (av U.cells vars) (M vars.length) λv H'=>Q v.cd H')) (λv H'=>Q v.cd H') [M y] H2:=by
      intro y z;simp only[S.uI,aE,cW,W,YO,D,SI a2,b4];rw[show ∀a b:Int,bm [J,J] [(0,1,M a),(1,1,M b)]=some (.agg [M a,M b])from λ_ _=>rfl];simp only[D];refine⟨.agg [.str v.E,M (B (65536+y)),M (aZ v.type).1.1],rfl,?_⟩;dsimp only;rw[show dk H2 false 3 1 [.str [],J,J] [(0,3,I.agg [.str v.E,M (B (65536+y)),M (aZ v.type).1.1])]=some (.aq .full 1 [.str v.E,M (B (65536+y)),M (aZ v.type).1.1],H2)from rfl];simp only[aP];refine w.app (Yz _) (m:=1) (news:=[.str v.E,M (B (65536+y)),M (aZ v.type).1.1]) rfl rfl rfl (by decide) (by omega) (by omega) λA F G _=>?_;simp only[aR,S.Eu,aE,cW,b4,D];rw[wrap_i64 (n:=(k:Int)+1) (by omega) (by omega),show(k:Int)+1=((k+1:Nat):Int) by simp];have ht:vars.take (k+1)=vars.take k++[v]:=by rw[abR,g];rfl
      refine s (k+1) _ (acc++[⟨B (65536+y),(aZ v.type).1.1,0,false,0,0⟩]) A F t j (by simp[ha]) ?_ ?_
      · rw[ht,Iz _ _ _ _ (by rw[ab3,ha];omega)];exact G
      ·rw[z];exact he
     apply aF<;>intro h
     ·exact k2 _ (by unfold oh;rw[aa (by simpa using h)])
     ·exact k2 _ (by unfold oh;rw[ae (by simpa using h)])
 exact main vars 0 0 [] _ _ rfl (Yz _) rfl (cC.nil _ _ _) rfl
theorem SJ{x:aM}(a:x.ok):bE (ai C) 42 [.agg x.cells] (M (gB x.aC 0)):=by
 obtain⟨hl,hp⟩:=aM.fK a;refine bE.of ak (by simp[I.bA,I.a_,aM.a_]) rfl λQ hQ=>S.O4 hT ?_;unfold S.f42;simp only[qh,aP,Bg,se,cO,D];have main:∀(r:List K)(i:Nat)(m:Int)(H1:Z),x.aC.drop i=r→gB r m=gB x.aC 0→aA (S.uS (ai C) (av K.cells x.aC) (M x.aC.length) Q) ([M m,M i],H1):=by
  intro r;induction r with
  | nil=>intro i m H1 b he;have hle:=ek b;refine aA.step ?_;simp only[S.uS,aE,cW,bD,D,aB];rw[ee];rw[gB]at he;rw[he];exact hQ _
  | cons p r c=>
   intro i m H1 b he;obtain⟨d,a,e⟩:=ed b;refine aA.step ?_;simp only[S.uS,aE,cW,bD,D,aB];rw[dU,cK d];simp only[D];rw[dz K.len (by decide) _ a];simp only[D,aP,aJ,aY];rw[cM _ _ _ 2 p.len p.scalar rfl];have a2:=At.new H1 (.row p.cells);simp only[D,W,YO];rw[Iu a2];simp only[D,cO,b4];rw[gB]at he;have hw:Zb .i64 ((i:Int)+1)=((i+1:Nat):Int):=by rw[bI];simp
   rw[hw];exact c (i+1) _ _ e he
 exact main x.aC 0 0 _ rfl rfl
end
end Rb

namespace Rb
open Go
theorem Bo:∀l:List bp,I.cf (l.flatMap bp.cells)=l.flatMap bp.cells
 |[]=>rfl
 |s::r=>by rw[abk,jI,Bo r];rfl
theorem Bp:∀l:List bp,I.bA (l.flatMap bp.cells)=true
 |[]=>rfl
 | s::r=>by rw[abk];show I.bA ([M s.at_,M s.len,M s.kind,.bool s.bits,M s.bit,M s.aN]++r.flatMap bp.cells)=true;simp only[ZY,acD,I.bA,I.a_,Bp r];rfl
def eZ(t:T)(sp:bp)(ix:I):List I:=t.cells++(sp.cells++[ix])
theorem gj(t:T)(sp:bp)(ix:I):eZ t sp ix=[M t.kind,M t.size,.bool t.packed,av ay.cells t.aD,M t.bg,av T.cells t.aU,M sp.at_,M sp.len,M sp.kind,.bool sp.bits,M sp.bit,M sp.aN,ix]:=by unfold eZ;rw[T.bF];rfl
section
variable{H:Z}{id:Nat}{t:T}{sp:bp}{ix:I}(h:At H id (.row (eZ t sp ix)))
include h
theorem SK:O H 1 false (.ptr id 12)=some ix:=by rw[h.load,gj];rfl
theorem SL:O H 1 false (.ptr id 4)=some (M t.bg):=by rw[h.load,gj];rfl
theorem SM:O H 1 false (.ptr id 5)=some (av T.cells t.aU):=by rw[h.load,gj];rfl
theorem IF:O H 1 false (.ptr id 3)=some (av ay.cells t.aD):=by rw[h.load,gj];rfl
theorem IG:O H 6 true (.ptr id 0)=some (.agg t.cells):=by rw[h.load,gj,T.bF];rfl
theorem IH:O H 1 false (.ptr id 6)=some (M sp.at_):=by rw[h.load,gj];rfl
theorem SN:O H 6 true (.ptr id 6)=some (.agg sp.cells):=by rw[h.load,gj];rfl
theorem SO{v:I}(b:v.known=true)(a:v.cells=[v])(c:v.scalar=true):Y H 1 (.ptr id 12) v=some (H.set id (.row (eZ t sp v))):=by rw[h.store,gj,gj,aa ⟨b,by rw[a];rfl,by rw[a];simpa using c,(by show 12+1≤13;decide)⟩,a];rfl
theorem II(u:T):Y H 6 (.ptr id 0) (.agg u.cells)=some (H.set id (.row (eZ u sp ix))):=by rw[h.store,gj,gj,aa ⟨rfl,u.len,u.scalar,(by show 0+6≤13;decide)⟩,T.bF];rfl
theorem SP(s:bp):Y H 6 (.ptr id 6) (.agg s.cells)=some (H.set id (.row (eZ t s ix))):=by rw[h.store,gj,gj,aa ⟨rfl,rfl,rfl,(by show 6+6≤13;decide)⟩];rfl
theorem SQ(v:Int):Y H 1 (.ptr id 6) (M v)=some (H.set id (.row (eZ t {sp with at_:=v} ix))):=by rw[h.store,gj,gj,aa ⟨rfl,rfl,rfl,(by show 6+1≤13;decide)⟩];rfl
theorem SR(v:Int):Y H 1 (.ptr id 7) (M v)=some (H.set id (.row (eZ t {sp with len:=v} ix))):=by rw[h.store,gj,gj,aa ⟨rfl,rfl,rfl,(by show 7+1≤13;decide)⟩];rfl
theorem SS(v:Int):Y H 1 (.ptr id 8) (M v)=some (H.set id (.row (eZ t {sp with kind:=v} ix))):=by rw[h.store,gj,gj,aa ⟨rfl,rfl,rfl,(by show 8+1≤13;decide)⟩];rfl
end
def sj(ix:I)(l:List Int):Prop:=∃tk,ix = .aq tk l.length (l.map (bY))
theorem Bq{fs:List ay}{i:Nat}{f:ay}(H:Z)(h:fs[i]?=some f):O H 6 true (.af (((fs.flatMap ay.cells).drop (i*9)).drop 1))=some (.agg f.type.cells):=by
 have e:=dz ay.len (by decide) H h;have a:(fs.flatMap ay.cells).drop (i*9)=f.cells++(fs.drop (i+1)).flatMap ay.cells:=by
  have key:∀(xs:List ay)(i:Nat)(f:ay),xs[i]?=some f→(xs.flatMap ay.cells).drop (i*9)=f.cells++(xs.drop (i+1)).flatMap ay.cells:=by
   intro xs;induction xs with
   |nil=>intro i f h;simp at h
   | cons x r c=>
    intro i f h;cases i with
    |zero=>simp at h;subst h;simp
    | succ i=>rw[abk,show(i+1)*9=x.cells.length+i*9 by rw[x.len];omega,List.drop_length_add_append];exact c i f (by simpa using h)
  exact key fs i f h
 rw[a];show bT (acE 1 (f.cells++_)) 0 6 true=_;cases f with
 |mk n t b w=>cases t;rfl
section
variable{C:Ctx}(ak:bP C)(hT:Cl (ai C) S.bu)
include ak hT
theorem IJ{t:T}(h:t.lay)(a:t.kind=3∨t.kind=4):bE (ai C) 72 [.agg t.cells] (.ar [av bp.cells (cH t),J]):=by
 refine bE.of ak (by simp[I.bA,I.a_,T.a_]) (by show I.a_ (.ar [.aq .dead (cH t).length ((cH t).flatMap bp.cells),J])=true;simp[I.a_,I.bA,Bp,Tok.free]) λQ hQ=>?_
 refine ai.cd ?_;refine S.Pl hT ?_;unfold S.f72;simp only[gz,aP,iU,D];refine S.Ah hT (AL ak hT t h.ok λH1=>?_);rw[h.zero];simp only[bh,abp,abq,D,aP,aJ,aY];rw[cM _ _ _ 2 rfl rfl rfl];simp only[D,dZ,aB];rw[el];simp only[dV,ky,D,dZ,cD,aR];have hs:=fM h.snd;obtain⟨p,hp,hle,hlen⟩:=qi h a;have k2:S.u2 (ai C) (.af t.cells) (λv H'=>Q v.cd H') [P] (H1.push (.row [M (A t).1.1,M (A t).1.2])):=by
  simp only[S.u2,aE,aB,ZV,bR,aR,S.Fl,iU,D];refine S.Ai hT (AJ hT hs a (λf hf=>wP ak hT f.type (fM (og h a hf).snd)) (λf hf=>wO f.type (fM (og h a hf).snd)) (λe=>by rw[hp]at e;cases e) λq b x H2 c=>?_);rw[hp]at b;cases b;obtain⟨_,tk,rfl,_⟩:=c;simp only[bh,abp,abq,D,aP,aJ,aY];rw[cM _ _ _ 4 rfl rfl rfl];simp only[D,W,YO,eK];rw[show bT [M (ca p.size p.bN),M p.bN,.aq tk p.du.length (p.du.flatMap bp.cells),M p.bit] 2 1 false=some (.aq tk p.du.length (p.du.flatMap bp.cells))from rfl];simp only[D,I.cd,I.cf,Bo];have d:cH t=p.du:=by unfold cH;rw[hp]
  rw[d]at hQ;exact hQ _
 rcases a with a|a
 · rw[ae (by rw[a];decide)];exact k2
 · rw[aa (by rw[a];decide),show((t.kind != 4):Bool)=false by rw[a];decide];exact k2
theorem SU{t:T}{sp:bp}{ix:I}{idx:List Int}{p:K}{H:Z}{id:Nat}(h:At H id (.row (eZ t sp ix)))(ht:t.lay)(x:sj ix idx)(y:(db t p).1=0)(m:p.bb.length≤idx.length){Q:ad}
  (z:∀i q e r H',p.bb.length=1→idx=i::q→t.aU=e::r→i≥qc t.bg→b7 id H H'→Q P H')
  (A:∀i q e r a H',p.bb.length=1→idx=i::q→t.aU=e::r→¬i≥qc t.bg→db t p=(0,e)→sj a q→e.lay→b7 id H H'→At H' id (.row (eZ e {sp with at_:=B (sp.at_+B (Zb .i64 i*(aZ e).1.1)),len:=(aZ e).1.1} a))→Q br H')
  (F:∀n f s H',p.bb.length≠1→p.bb=[]→t.aD.findIdx? (λf=>f.E==p.field)=some n→t.aD[n]?=some f→(cH t)[n]?=some s→db t p=(0,f.type)→f.type.lay→b7 id H H'→At H' id (.row (eZ f.type {s with at_:=B (s.at_+sp.at_)} ix))→Q br H') :
  ai C 45 [.ptr id 0,.agg p.cells] H Q:=by
 refine S.O6 hT ?_;unfold S.f45;simp only[Hy,aP,wC,wD,cO,D,cJ,aB];rcases si ht y with⟨b,hk,e,r,he,c,u⟩|⟨d,hk,n,f,s,h1,j,k,c,G⟩
 · rw [aa (by rw[b];decide)];obtain ⟨i,q,L⟩:∃i q,idx=i::q:=by
    cases idx with
    |nil=>rw[b]at m;simp at m
    |cons i q=>exact⟨i,q,rfl⟩
   subst L;obtain⟨tk,rfl⟩:=x;have mV:aO none 1 (.aq tk (i::q).length ((i::q).map (bY))) (J)=some (.af ((i::q).map (bY))):=by show(if 0≤(0:Int)∧(0:Int)<((i::q).length:Nat)then some (I.af (((i::q).map (bY)).drop ((0:Int).toNat*1)))else none)=_;rw[aa ⟨ach _,by simp⟩];rfl
   have ld1:∀H,O H 1 false (.af ((i::q).map (bY)))=some (bY i):=λH=>by show bT ((i::q).map (bY)) 0 1 false=_;unfold bT;rw[qM,el];rfl
   obtain ⟨a,N,l⟩:∃a,c9 1 (.aq tk (i::q).length ((i::q).map (bY))) (some (M 1)) none none=some a∧sj a q∧a.known=true∧a.cells=[a]∧a.scalar=true:=by refine⟨.aq .dead q.length (q.map (bY)),?_,⟨_,rfl⟩,rfl,rfl,rfl⟩;simp only[c9,eh,acw];rw[cY];simp only[show(1:Int).toNat=1 from rfl];rw[aa ⟨by simp,sl _,by simp⟩,lS,lS];have e1:((i::q).map (bY)).take ((i::q).length*1)=(i::q).map (bY):=abM (by simp);rw[e1];rfl
   obtain⟨l,g1,g2,g3⟩:=l;simp only[aX,W,YO,SK h,D,mV,ld1,N];rw[SO h g1 g2 g3];simp only[D];have a1:=h.set (.row (eZ t sp a));have k1:=b7.set id H (.row (eZ t sp a));rw[SL a1];simp only[D,j3,f_,aB];apply aF<;>intro hb
   ·exact z i q e r _ b rfl he (by simpa using hb) k1
   · rw[SM a1,he];have U:aO none 6 (av T.cells (e::r)) (J)=some (dE T.cells 6 (e::r) 0):=cK (by simp);simp only[D,U,dz T.len (by decide) _ (show(e::r)[0]?=some e from rfl)];rw[II a1 e];simp only[D];have a2:=a1.set (.row (eZ e sp a));rw[IG a2];simp only[D];refine wQ ak hT e u.ok _ _ ?_;simp only[bh,abp,abq,D,IH a2,jF,b4];rw[SQ a2];simp only[D];have a3:=a2.set (.row (eZ e {sp with at_:=B (sp.at_+B (Zb .i64 i*(aZ e).1.1))} a));rw[SR a3];simp only[D];exact A i q e r a _ b rfl he (by simpa using hb) c l u (k1.trans ((b7.set id _ _).trans ((b7.set id _ _).trans (b7.set id _ _)))) (a3.set _)
 · rw [ae (by rw[d];decide)];have V:=(X1.1 j).1;have X:=(X1.1 k).1;simp only[aX,W,YO,IF h,D];refine S.wj hT ?_;refine fieldIndex (p:=λf=>f.E==p.field) (λg _ R ab=>S.Pk hT (by
     unfold S.f71;have hb:aK H false 9 (.agg g.cells)=some (.af g.cells,H):=by unfold aK;rw[aa ⟨rfl,g.len⟩];rfl
     have l0:O H 1 false (.af (g.cells.drop 0))=some (.str g.E):=p8 g;have l1:O H 1 false (.af (p.cells.drop 0))=some (.str p.field):=Aw p H;rw[hb];simp only[aP,W,D,l0,l1,jj];exact ab)) (T.sg ht.ok).2.2 ?_
   rw[h1];simp only[fI,IG h,D];refine IJ ak hT ht hk _ _ ?_;simp only[bh,abp,abq,D];rw[cK X];simp only[D];rw[dz (cells:=bp.cells) (λ_=>rfl) (by decide) _ k];simp only[D,aP,aJ,aY];rw[cM _ _ _ 6 rfl rfl rfl];have b1:=At.new H (.row s.cells);have a1:=h.push (.row s.cells);have k1:=b7.push id H (.row s.cells);have ac:H.n≠id:=YR h.lr;generalize H.push (.row s.cells)=H1 at *;have lb:O H1 1 false (.ptr H.n 0)=some (M s.at_):=by rw[b1.load];rfl
   simp only[D,W,YO,lb,IH a1,b4];have ag:∀v:Int,Y H1 1 (.ptr H.n 0) (M v)=some (H1.set H.n (.row ({s with at_:=v}:bp).cells)):=λv=>by rw[b1.store,aa ⟨rfl,rfl,rfl,(by show 0+1≤6;decide)⟩];rfl
   rw[ag];simp only[D];have b2:=b1.set (.row ({s with at_:=B (s.at_+sp.at_)}:bp).cells);have a2:=a1.bZ ac.symm (.row ({s with at_:=B (s.at_+sp.at_)}:bp).cells);have k2:b7 id H (H1.set H.n (.row ({s with at_:=B (s.at_+sp.at_)}:bp).cells)):=⟨k1.1,λi o hi w=>(k1.2 i o hi w).bZ (YM w.1) _⟩
   generalize H1.set H.n (.row ({s with at_:=B (s.at_+sp.at_)}:bp).cells)=H2 at *;have ah:O H2 6 true (.ptr H.n 0)=some (.agg ({s with at_:=B (s.at_+sp.at_)}:bp).cells):=by rw[b2.load];rfl
   simp only[ah,D,IF a2];rw[cK V];simp only[D,dE];rw[show(I.af (acE 1 (acE (n*9) (List.flatMap ay.cells t.aD)))) = .af (((t.aD.flatMap ay.cells).drop (n*9)).drop 1)from rfl,Bq H2 j];simp only[D];rw[SP a2];simp only[D];have a3:=a2.set (.row (eZ t {s with at_:=B (s.at_+sp.at_)} ix));rw[II a3 f.type];simp only[D];exact F n f s _ (by rw[d];decide) d h1 j k c G (k2.trans ((b7.set id _ _).trans (b7.set id _ _))) (a3.set _)
end
end Rb

namespace Rb
open Go
theorem cC.IK{n0 sz b a m:Nat}{H:Z}{x y:I}{cells news:List I}{K:ad}(h:cC n0 H sz x a cells)(d:n0≤H.n)(f:fe H sz y=some (m,news))(hn:news.length=m*sz)(hs:news.all I.scalar=true)(g:m≠0)
  (hb:(a+m)*b≤140737488355328) (hl:a+m≤9223372036854775807) (j:∀H',cC n0 H' sz (.aq (.own H.n) (a+m) (cells++news)) (a+m) (cells++news)→H.n<H'.n→(∀i o,At H i o→(∀l c,x ≠ .aq (.own i) l c)→At H' i o)→K (.aq (.own H.n) (a+m) (cells++news)) H'):au (cp H false sz b x y) K:=by
 obtain⟨tk,rfl,hc,k⟩:=h;have hlen:(cells++news).length=(a+m)*sz:=by simp[hc,hn,YA]
 have grow:∀tk:Tok,tk = .full∨(tk = .nil∧a=0)→cp H false sz b (.aq tk a cells) y=some (.aq (.own H.n) (a+m) (cells++news),H.push (.tok ((a+m)*sz) sz)):=by intro tk ht;simp only[cp,f,hs,not_true_eq_false,bR,ae g];rw[ae (by simp only[abF];exact⟨hc,hb,hl⟩)];rcases ht with rfl|⟨rfl,_⟩<;>rfl
 have fresh:K (.aq (.own H.n) (a+m) (cells++news)) (H.push (.tok ((a+m)*sz) sz)):=
  j _ ⟨_,rfl,hlen,.inr (.inr ⟨H.n,rfl,d,At.new H _⟩)⟩ (aaP _) (λi o h _=>h.push _)
 rcases k with ht|ht|⟨t,rfl,h1,p⟩
 ·exact⟨_,_,grow tk (.inr ht),fresh⟩
 ·exact⟨_,_,grow tk (.inl ht),fresh⟩
 · refine ⟨.aq (.own H.n) (a+m) (cells++news),(H.set t .gone).push (.tok ((a+m)*sz) sz),?_,j _ ⟨_,rfl,hlen,.inr (.inr ⟨H.n,rfl,d,At.new (H.set t .gone) _⟩)⟩ (aaP _) (λi o hi q=>(hi.bZ (λe=>?_) _).push _)⟩
   · simp only[cp,f,hs,not_true_eq_false,bR,ae g];rw[ae (by simp only[abF];exact⟨hc,hb,hl⟩)];simp[p.2]
   · subst e;exact q _ _ rfl
def IL(ix:I)(l:List Int):Prop:=∃tk,ix = .aq tk l.length (l.map (M))
theorem IL.sc{x:I}{l:List Int}(h:IL x l):x.scalar=true∧x.known=true∧x.cells=[x]:=by obtain⟨tk,rfl⟩:=h;exact⟨rfl,rfl,rfl⟩
end Rb

namespace Rb
open Go
section
variable{C:Ctx}(ak:bP C)(hT:Cl (ai C) S.bu)
include ak hT
end
end Rb

namespace Rb
open Go
theorem cC.move{n0 sz a:Nat}{H H':Z}{x y:I}{cells:List I}(h:cC n0 H sz x a cells)(k:∀i o,At H i o→(∀l c,y ≠ .aq (.own i) l c)→At H' i o)(d:∀i l c,y = .aq (.own i) l c→∀l' c',x ≠ .aq (.own i) l' c'):cC n0 H' sz x a cells:=by
 obtain⟨tk,b,hc,ht⟩:=h;refine⟨tk,b,hc,?_⟩;rcases ht with q|q|⟨t,q,f,g⟩
 ·exact .inl q
 ·exact .inr (.inl q)
 · refine .inr (.inr ⟨t,q,f,k t _ g λl c e=>?_⟩);exact d t l c e _ _ (by rw[b,q])
theorem cC.SV{n0 sz c i:Nat}{H:Z}{x:I}{cells cs:List I}(h:cC n0 H sz x c cells)(d:At H i (.row cs))(o:bL):cC n0 (H.set i o) sz x c cells:=h.frame λt a b ht=>ht.bZ (λe=>by subst e;have:=ht.2.symm.trans d.2;cases this) _
theorem Ext.aI{H a b:Z}(E:Z.Ext H a)(hn:a.n≤b.n)(k:∀i o,i<H.n→At a i o→At b i o):Z.Ext H b:=⟨xl E.1 hn,λi hi=>((k i _ hi ⟨AH hi E.1,rfl⟩).2).trans (E.2 i hi)⟩
section
variable{C:Ctx}(ak:bP C)(hT:Cl (ai C) S.bu)
include ak hT
end
end Rb

namespace Rb
open Go
section
variable{Φ:aj}{H:Z}{Q:ad}
end
end Rb

namespace Rb
open Go
section
variable{Φ:aj}{H:Z}{Q:ad}
end
section
variable{C:Ctx}(ak:bP C)(hT:Cl (ai C) S.bu)
include ak hT
end
end Rb

namespace Rb
open Go
section
variable{C:Ctx}(ak:bP C)(hT:Cl (ai C) S.bu)
include ak hT
end
end Rb

namespace Rb
open Go
variable{t:T}{p:K}{r:List K}{sp:bp}{i:Int}{q idx:List Int}
def kF:List K→Nat
 |[]=>0
 |p::r=>p.bb.length+kF r
theorem SX(h:(db t p).1=0):p.bb.length≤1:=by
 unfold db at h;by_cases c1:1<p.bb.length∨(p.bb.length=1↔p.field≠[])
 · rw[aa c1]at h;have:(8:Int)=0:=h;omega
 ·omega
theorem qj(h:(dL t (p::r)).1=0):(db t p).1=0∧(dL (db t p).2 r).1=0:=by
 rw[dL]at h;by_cases c:(db t p).1≠0
 ·rw[aa c]at h;exact absurd h c
 ·rw[ae c]at h;exact⟨by omega,h⟩
theorem IM:∀{r:List K}{t:T},(dL t r).1=0→kF r≤r.length
 |[],_,_=>sl _
 | p::r,t,h=>by obtain⟨h1,a⟩:=qj h;have:=SX h1;have:=IM a;rw[kF,abJ];omega
theorem IP:∀(r:List K)(n:Int),0≤n→n+kF r≤9223372036854775807→gB r n=n+kF r
 |[],n,_,_=>by rw[gB,kF];simp
 | p::r,n,a,h1=>by rw[kF]at h1;have hw:B (n+(p.bb.length:Nat))=n+(p.bb.length:Nat):=bI;rw[gB,hw,IP r _ (by omega) (by omega),kF];omega
theorem SY(h:p.bb.length=1)(hi:i≥qc t.bg):iV (p::r) t sp (i::q)=none:=by unfold iV;rw[aa h];dsimp only;rw[aa hi]
theorem SZ{t e:T}{a:List T}(h:p.bb.length=1)(hi:¬i≥qc t.bg)(b:t.aU=e::a):iV (p::r) t sp (i::q)=iV r e {sp with at_:=B (sp.at_+B (Zb .i64 i*(aZ e).1.1)),len:=(aZ e).1.1} q:=by
 conv=>lhs;unfold iV
 rw[aa h];dsimp only;rw[ae hi,b]
theorem S0{f:ay}{s sp:bp}{n:Nat}(h:p.bb.length≠1)(a:t.aD.findIdx? (λf=>f.E==p.field)=some n)(b:t.aD[n]?=some f)(c:(cH t)[n]?=some s):iV (p::r) t sp idx=iV r f.type {s with at_:=B (s.at_+sp.at_)} idx:=by
 conv=>lhs;unfold iV
 rw[ae h,a];dsimp only;rw[b,c]
section
variable{C:Ctx}(ak:bP C)(hT:Cl (ai C) S.bu)
include ak hT
theorem S1{vars:List U}(hl:vars.length≤1000000)(hv:∀v∈vars,v.ok){x:aM}(aj:x.ok){ix:I}(ay:sj ix idx){H:Z}{Q:ad}(hQ:∀e H',Z.Ext H H'→Q (.ar [.agg (d_ vars x idx).cells,M e]) H'):ai C 19 [av U.cells vars,.agg x.cells,ix] H Q:=by
 obtain⟨bA,bB⟩:=aM.fK aj;refine S.OT hT ?_;unfold S.f19;simp only[qh,aP,aJ,aY];have az:=Z.Ext.push H (.row dq.cells);have r1:=At.new H (.row dq.cells);change ai C 15 [av U.cells vars] (H.push (.row dq.cells)) _;have n1:(H.push (.row dq.cells)).n=H.n+1:=rfl;generalize H.push (.row dq.cells)=H1 at *;have ret:∀(sp:bp)(e:Int)(H2:Z),Z.Ext H H2→At H2 H.n (.row dq.cells)→d_ vars x idx=sp→Do (Y H2 6 (.ptr H.n 0) (.agg sp.cells)) λaD=>Do (O aD 6 true (.ptr H.n 0)) λy=>Q (.ar [y,M e]) aD:=by intro sp e H2 A m he;rw[m.put (n:=6) rfl rfl rfl];simp only[D];rw[(m.set _).all (n:=6) rfl];simp only[D];rw[he]at hQ;exact hQ e _ (A.set (sl _) _)
 have L:bm [J,J,J,P,J,J] []=some (.agg dq.cells):=rfl;refine Bn ak hT hl hv _ _ ?_;unfold kc;by_cases hm:(mapM vars).1≠0
 · rw[aa hm];simp only[bh,abp,abq,D,dZ,aB];rw[aa (by simpa using hm),L];simp only[D];exact ret dq _ H1 az r1 (by unfold d_;rw[aa hm])
 rw[ae hm];obtain⟨a1,a2⟩:=SH (show(mapM vars).1=0 by omega);simp only[bh,abp,abq,D,dZ,aB];rw[el];simp only[xb,D];refine Ba ak hT vars x (by rw[show maxLen=9223372036854775807 from by decide];omega) hv aj _ _ ?_;rw[Bc];simp only[bh,abp,abq,D,aP,aJ,aY];rw[cM _ _ _ 6 (w8 _) (Bb _) rfl];have b2:=At.new H1 (.row (ft (bV vars x)));have m:=r1.push (.row (ft (bV vars x)));have A:=az.trans (Z.Ext.push H1 (.row (ft (bV vars x))));have bC:H1.n≠H.n:=by omega
 generalize H1.push (.row (ft (bV vars x)))=H2 at *;simp only[D,dZ,aB];by_cases hp:(bV vars x).1≠0
 · rw[aa (by simpa using hp),L];simp only[D];exact ret dq _ H2 A m (by unfold d_;rw[ae hm,aa hp])
 rw[ae (by simpa using hp)];have al:(bV vars x).1=0:=by omega
 have l0:O H2 1 false (.ptr H1.n 0)=some (M (bV vars x).2.kind):=by rw[b2.load];unfold ft;rw[aa al,T.bF];rfl
 simp only[W,YO,D,l0,dZ,cD,aR];have aG : ∀b:Bool,(b=true↔¬((bV vars x).2.kind=1∨(bV vars x).2.kind=2))→S.uL (ai C) (av U.cells vars) ix (.af x.cells) (.ptr H.n 0) (.aq .dead vars.length (ea vars (mapM vars).2.2)) (.ptr H1.n 0) Q [.bool b] H2:=by
  intro b hb;simp only[S.uL,aE,aB];apply aF<;>intro hk
  · rw[L];simp only[D];exact ret dq _ H2 A m (by unfold d_;rw[ae hm,ae hp,aa (hb.1 hk)])
  have aH:¬¬((bV vars x).2.kind=1∨(bV vars x).2.kind=2):=λe=>hk (hb.2 e);have a4:bo false ix=some (M idx.length):=by obtain⟨tk,rfl⟩:=ay;rfl
  simp only[a4,xb,D];refine SJ ak hT aj _ _ ?_;simp only[dZ,D,aB];apply aF<;>intro hc
  · rw[L];simp only[D];exact ret dq _ H2 A m (by unfold d_;rw[ae hm,ae hp,ae aH,aa (by simpa using hc)])
  have a8:¬(idx.length:Int)≠gB x.aC 0:=by simpa using hc
  have u:d_ vars x idx=match vars.findIdx? (λv=>v.E==x.var)with
    |none=>dq
    | some n=>match vars[n]?,(mapM vars).2.2[n]? with
     | some v,some g=>match iV x.aC v.type {dq with at_:=g.at_,len:=g.len} idx with
      |some sp=>{sp with kind:=(bV vars x).2.kind}
      |none=>dq
     |_,_=>dq:=by
   unfold d_;rw[ae hm,ae hp,ae aH,ae a8]
  have c:(bV vars x).1=0:=al;obtain ⟨n,v,aL,N,bE,bG,a9⟩:∃n v,vars.findIdx? (λv=>v.E==x.var)=some n∧vars[n]?=some v∧vars.find? (λv=>v.E==x.var)=some v∧eg v.type=0∧bV vars x=dL v.type x.aC:=by
   rcases nT (λv:U=>v.E==x.var) vars with⟨i,v,h1,j,a_⟩|⟨h1,j⟩
   · refine ⟨i,v,h1,a_,j,?_,?_⟩
     · unfold bV at c;rw[j]at c;dsimp only at c;by_cases hs:eg v.type≠0
       ·rw[aa hs]at c;exact absurd c hs
       ·omega
     · unfold bV;unfold bV at c;rw[j]at c ⊢;dsimp only at c ⊢;by_cases hs:eg v.type≠0
       ·rw[aa hs]at c;exact absurd c hs
       ·rw[ae hs]
   · unfold bV at c;rw[j]at c;have:(6:Int)=0:=c;omega
  have aN:=(X1.1 N).1;have aS:=aaN N;have ba:n<(mapM vars).2.2.length:=by rw[a1];exact aN
  obtain⟨g,aT⟩:∃g,(mapM vars).2.2[n]?=some g:=⟨_,YU ba⟩
  rw[aL]at u;dsimp only at u;rw[N,aT]at u;dsimp only at u;have bb:v.type.lay:=oe (by have:=hv v aS;cases v;exact this.2) (a2 v aS);rw[a9]at c;have bc:idx.length=kF x.aC:=by have h1:=IM c;have j:=IP x.aC 0 (ach _) (by omega);omega
  simp only[aR,S.EB];refine S.wi hT ?_;refine wE (p:=λv=>v.E==x.var) (λw _ R bd=>S.O5 hT (by
    unfold S.f44;have hb:aK H2 false 7 (.agg w.cells)=some (.af w.cells,H2):=by unfold aK;rw[aa ⟨rfl,w.len⟩];rfl
    have l0:O H2 1 false (.af (w.cells.drop 0))=some (.str w.E):=p_ w;have l1:O H2 1 false (.af (x.cells.drop 0))=some (.str x.var):=Bh x H2;rw[hb];simp only[aP,W,D,l0,l1,jj];exact bd)) (by omega) ?_
  rw[aL];simp only[fI];rw[cK aN];simp only[D,dE,W];rw[Ax v H2 N];have be:aO none 3 (.aq .dead vars.length (ea vars (mapM vars).2.2)) (M n)=some (.af ((ea vars (mapM vars).2.2).drop (n*3))):=by show(if 0≤(n:Int)∧(n:Int)<(vars.length:Nat)then some (I.af ((ea vars (mapM vars).2.2).drop ((n:Int).toNat*3)))else none)=_;rw[aa ⟨by omega,by omega⟩,Zc]
  have bf:∀(a:List U)(s:List bp)(n:Nat)(v:U)(g:bp),a[n]?=some v→s[n]?=some g→∃tl,(ea a s).drop (n*3) = .str v.E :: M g.at_ :: M g.len::tl:=by
   intro a;induction a with
   |nil=>intro s n v g h;simp at h
   | cons y a ab=>
    intro s n v g h1 j;cases s with
    |nil=>simp at j
    | cons z s=>
     cases n with
     | zero=>simp at h1 j;subst h1;subst j;exact⟨ea a s,rfl⟩
     | succ n=>obtain⟨tl,e⟩:=ab s n v g (by simpa using h1) (by simpa using j);refine⟨tl,?_⟩;rw[ea,show(n+1)*3=n*3+3 by omega];exact e
  obtain⟨tl,bg⟩:=bf vars (mapM vars).2.2 n v g N aT;simp only[D,be,bg,List.drop_succ_cons,abz];have bi:O H2 2 true (.af (M g.at_ :: M g.len::tl))=some (.agg [M g.at_,M g.len]):=by show bT _ 0 2 true=_;exact p6 (a:=[M g.at_,M g.len]) rfl
  simp only[bi,D];refine⟨.agg ({dq with at_:=g.at_,len:=g.len}:bp).cells,rfl,?_⟩;dsimp only;obtain⟨tk,aU⟩:=ay;have bj:bm [J,J,P,aQ,J,aQ,J,J,J,P,J,J,aQ] [(0,6,.agg v.type.cells),(6,6,.agg ({dq with at_:=g.at_,len:=g.len}:bp).cells),(12,1,ix)]=some (.agg (eZ v.type {dq with at_:=g.at_,len:=g.len} ix)):=by rw[gj,T.bF,aU];rfl
  rw[bj];simp only[D];have bk:aK H2 true 13 (.agg (eZ v.type {dq with at_:=g.at_,len:=g.len} ix))=some (.ptr H2.n 0,H2.push (.row (eZ v.type {dq with at_:=g.at_,len:=g.len} ix))):=by unfold aK;rw[aa ⟨rfl,by rw[gj];rfl⟩];rfl
  rw[bk,aP];simp only[Bg,se,D,cO];have a3:=At.new H2 (.row (eZ v.type {dq with at_:=g.at_,len:=g.len} ix));have bl:=m.push (.row (eZ v.type {dq with at_:=g.at_,len:=g.len} ix));have b3:=b2.push (.row (eZ v.type {dq with at_:=g.at_,len:=g.len} ix));have bn:=A.trans (Z.Ext.push H2 (.row (eZ v.type {dq with at_:=g.at_,len:=g.len} ix)));have bH:H.n<H2.n∧H1.n<H2.n:=⟨m.1,b2.1⟩
  have B:H.n≠H2.n∧H1.n≠H2.n:=⟨by omega,by omega⟩
  have aI:∀{d ac:Z},Z.Ext H d→b7 H2.n d ac→Z.Ext H ac:=λ{d ac} e k=>⟨xl e.1 k.1,λi hi=>((k.2 i (d.o i) (by omega) ⟨AH hi e.1,rfl⟩).2).trans (e.2 i hi)⟩
  have main:∀(r:List K)(i:Nat)(t:T)(sp:bp)(F:I)(G:List Int)(d:Z),x.aC.drop i=r→t.lay→(dL t r).1=0→sj F G→G.length=kF r→Z.Ext H d→At d H2.n (.row (eZ t sp F))→At d H.n (.row dq.cells)→At d H1.n (.row (ft (bV vars x))) →
    iV r t sp G=iV x.aC v.type {dq with at_:=g.at_,len:=g.len} idx →
    aA (S.uK (ai C) (.ptr H.n 0) (.ptr H1.n 0) (.ptr H2.n 0) (av K.cells x.aC) (M x.aC.length) Q) ([M i],d):=by
   intro r;induction r with
   | nil=>
    intro i t sp F G d am ht aV hi ag an a5 ao ap hw;have hle:=ek am;refine aA.step ?_;simp only[S.uK,aE,bD,D,aB,aR,S.EA];rw[ee];have bq:O d 1 false (.ptr H1.n 0)=some (M (bV vars x).2.kind):=by rw[ap.load];unfold ft;rw[aa al,T.bF];rfl
    simp only[aX,W,YO,bq,D];rw[SS a5];simp only[D];have a6:=a5.set (.row (eZ t {sp with kind:=(bV vars x).2.kind} F));rw[SN a6];simp only[D];rw[iV]at hw;rw[←hw]at u;exact ret _ _ _ (aI an (b7.set _ _ _)) (ao.bZ B.1 _) u
   | cons p r ab=>
    intro i t sp F G d am ht aV hi ag an a5 ao ap hw;obtain⟨br,bs,aW⟩:=ed am;obtain⟨bt,ah⟩:=qj aV;rw[kF]at ag;refine aA.step ?_;simp only[S.uK,aE,bD,D,aB];rw[dU,cK br];simp only[D];rw[dz K.len (by decide) _ bs];simp only[D,aP,aJ,aY];rw[cM _ _ _ 2 p.len p.scalar rfl];have bu:=At.new d (.row p.cells);have a6:=a5.push (.row p.cells);have au:=ao.push (.row p.cells);have aZ:=ap.push (.row p.cells);have aw:=an.trans (Z.Ext.push d (.row p.cells));simp only[D];rw[bu.load,gJ p.len];simp only[D];generalize d.push (.row p.cells)=ac at *;have a0:Zb .i64 ((i:Int)+1)=((i+1:Nat):Int):=by rw[bI];simp
    refine SU ak hT a6 ht hi bt (by omega) (λi0 q e bv V c1 c2 c3 X l=>?_) (λi0 q e bv bw V c1 c2 c3 X c5 ax bx l a7=>?_) (λn' f s V bz c1 c2 c3 X c5 ax l a7=>?_)
    · simp only[dS,D,aB,Bool.not_false,aY,L];refine ret dq _ V (aI aw l) (l.2 _ _ B.1 au) ?_;rw[c2,SY c1 X]at hw;rw[←hw]at u;exact u
    · simp only[dS,D,aB,ab2,ZV,bR,b4,a0];refine ab (i+1) e _ bw q V aW bx ?_ ax ?_ (aI aw l) a7 (l.2 _ _ B.1 au) (l.2 _ _ B.2 aZ) ?_
      ·rw[c5]at ah;exact ah
      ·rw[c2,abJ]at ag;omega
      · rw[c2,SZ c1 X c3]at hw;exact hw
    · simp only[dS,D,aB,ab2,ZV,bR,b4,a0];refine ab (i+1) f.type _ F G V aW ax ?_ hi ?_ (aI aw l) a7 (l.2 _ _ B.1 au) (l.2 _ _ B.2 aZ) ?_
      ·rw[c5]at ah;exact ah
      ·rw[c1,List.length_nil]at ag;omega
      · rw[S0 bz c2 c3 X]at hw;exact hw
  exact main x.aC 0 v.type _ ix idx _ rfl bb c ⟨tk,aU⟩ bc bn a3 bl b3 rfl
 apply aF<;>intro h1
 · refine aG _ ?_;simp only[bne_iff_ne,ne_eq]at h1 ⊢;omega
 · refine aG false ⟨λe=>(by cases e),λe=>?_⟩;simp only[bne_iff_ne,ne_eq]at h1;omega
end
end Rb

namespace Rb
open Go
variable{E:List UInt8}{i:Nat}
theorem IQ:∀(L:List (List UInt8×Int)) (k:Nat) (l:List UInt8×Int) (v:Int),L[k]?=some l→(L.flatMap sf).set (k*2+1) (bY v)=(L.set k (l.1,v)).flatMap sf
 |[],k,l,v,h=>by simp at h
 | x::r,0,l,v,h=>by simp at h;subst h;rfl
 | x::r,k+1,l,v,h=>by have:=IQ r k l v (by simpa using h);rw[show(k+1)*2+1=k*2+1+1+1 by omega,List.set_cons_succ,abk,abk,←this];rfl
section
variable{C:Ctx}(ak:bP C)(hT:Cl (ai C) S.bu)
include ak hT
variable{vars:List U}{s:RS}{lx px:I}{H:Z}{id:Nat}{Q:ad}
end
theorem IU{s:RS}(hi:s.aS.findIdx? (λl=>l.1==E)=some i):∃l,s.aS[i]?=some l∧l.1=E∧s.get E=l.2∧∀v,s.put E v={s with aS:=s.aS.set i (l.1,v)}:=by
 rcases nT (λl:List UInt8×Int=>l.1==E) s.aS with⟨j,l,h1,a,b⟩|⟨h1,a⟩
 · rw [hi]at h1;cases h1;have hn:l.1=E:=by
    have:=List.find?_some a;simpa using this
   refine⟨l,b,hn,by unfold RS.get;rw[a],λv=>?_⟩;unfold RS.put;rw[hi,hn]
 ·rw[hi]at h1;cases h1
theorem S2{L:List (List UInt8×Int)}(h:E∈L.map (·.1)):∃i,L.findIdx? (λl=>l.1==E)=some i:=by
 rcases nT (λl:List UInt8×Int=>l.1==E) L with⟨j,l,h1,a,b⟩|⟨h1,a⟩
 ·exact⟨j,h1⟩
 · rw[List.find?_eq_none]at a;obtain⟨l,hl,rfl⟩:=aaE.1 h;exact absurd (by simp) (a l hl)
theorem ka.put{H:Z}{id j m i:Nat}{L:List (List UInt8×Int)}{cs:List I}{l:List UInt8×Int}(b:j≠id)(a:At H j (.row cs))(c:cs.length=m*2)(d:L.length≤m)(e:cs.take (L.length*2)=L.flatMap sf)(hi:L[i]?=some l)(v:Int) :
  Y H 1 (.ptr j (i*2+1)) (bY v)=some (H.set j (.row (cs.set (i*2+1) (bY v))))∧ka (H.set j (.row (cs.set (i*2+1) (bY v)))) id (L.set i (l.1,v)) (.row j 0 L.length 2):=by
 have f:=(X1.1 hi).1;refine⟨?_,.inr ⟨j,_,m,by simp,b,a.set _,by simpa using c,by simpa using d,?_⟩⟩
 ·rw[a.store,aa ⟨rfl,rfl,rfl,by omega⟩];rfl
 ·rw[aam,List.take_set,e,IQ L i l v hi]
theorem ka.app{H:Z}{id:Nat}{L:List (List UInt8×Int)}{x:I}(h:ka H id L x)(A:id<H.n)(hl:L.length≤1000000)(E:List UInt8)(v:Int){K:ad}
  (f:∀a H',H.n≤H'.n→(∀j o,j≤id→(∀c d e,x ≠ .row j c d e)→At H j o→At H' j o)→ka H' id (L++[(E,v)]) a→(∀c d e,a ≠ .row id c d e)→a.known=true→a.cells=[a]→a.scalar=true→(∀j c d e,a = .row j c d e→(∃c' w y,x = .row j c' w y)∨H.n≤j)→(∀j o,(∀cs,o ≠ .row cs)→At H j o→At H' j o)→K a H') :
  au (cp H true 2 24 x (.aq .full 1 [.str E,bY v])) K:=by
 have p:fe H 2 (.aq .full 1 [.str E,bY v])=some (1,[.str E,bY v]):=rfl;rcases h with⟨rfl,rfl⟩|⟨j,cs,m,rfl,r,b,z,B,g⟩
 · refine⟨.row H.n 0 1 2,H.push (.row [.str E,bY v]),rfl,?_⟩;refine f _ _ (YH _) (λj o _ _ h=>h.push _) (.inr ⟨H.n,_,1,rfl,by omega,At.new H _,rfl,sl _,rfl⟩) (λc d e h=>?_) rfl rfl rfl (λj c d e h=>?_) (λj o _ h=>h.push _)
   ·simp only[I.row.injEq]at h;omega
   ·simp only[I.row.injEq]at h;right;omega
 · by_cases hc : L.length+1≤m
   · refine ⟨.row j 0 (L.length+1) 2,H.set j (.row (setCells cs (L.length*2) [.str E,bY v])),?_,?_⟩
     · simp only[cp,p,b.2];simp only[aaM,acr,I.scalar,acs,not_true_eq_false,bR];rw[el,ae (by simp only[abF];exact⟨trivial,trivial,by omega,by omega⟩),cY]
     · refine f _ _ (sl _) (λq o _ hn h=>h.bZ (λe=>hn 0 L.length 2 (by rw[e])) _) (.inr ⟨j,_,m,by simp,r,b.set _,?_,by simpa using hc,?_⟩) (λc d e h=>?_) rfl rfl rfl (λq c d e h=>?_) (λq o i h=>h.bZ (λe=>by subst e;exact i cs (h.2.symm.trans b.2)) _)
       · show((cs.set (L.length*2) (.str E)).set (L.length*2+1) (bY v)).length=_;simpa using z
       · rw [abI,acq];show((cs.set (L.length*2) (.str E)).set (L.length*2+1) (bY v)).take ((L.length+1)*2)=_;have e1 : ((cs.set (L.length*2) (I.str E)).set (L.length*2+1) (bY v)).take ((L.length+1)*2)=cs.take (L.length*2)++[.str E,bY v]:=by
          apply acF;intro q;rw[X3];have k:(cs.take (L.length*2)).length=L.length*2:=by rw[ab3];omega
          by_cases s:q<(L.length+1)*2
          · rw [aa s,Ys,Ys];by_cases t:L.length*2+1=q
            · subst t;rw[aa rfl,oM,ZF (by omega),k,show L.length*2+1-L.length*2=1 by omega];rfl
            · rw [ae t];by_cases u:L.length*2=q
              · subst u;rw[aa rfl,cY,ZF (by omega),k,acG];rfl
              ·rw[ae u,ZE (by omega),X3,cY]
          ·rw[ae s,aah (by simp[k];omega)]
         rw[e1,g,acH];rfl
       ·simp only[I.row.injEq]at h;exact r h.1
       ·simp only[I.row.injEq]at h;exact .inl ⟨0,L.length,2,by rw[h.1]⟩
   · have l:cs.length=L.length*2:=by omega
     refine⟨.row H.n 0 (L.length+1) 2,(H.set j .gone).push (.row (cs++[.str E,bY v])),?_,?_⟩
     · simp only[cp,p,b.2];simp only[aaM,acr,I.scalar,acs,not_true_eq_false,bR];rw[el,ae (by simp only[abF];exact⟨trivial,trivial,by omega,by omega⟩),bC,cY]
     · refine f _ _ (YH _) (λq o _ hn h=>(h.bZ (λe=>hn 0 L.length 2 (by rw[e])) _).push _) (.inr ⟨H.n,_,L.length+1,by simp,by omega,At.new (H.set j .gone) _,by simp[l];omega,by simp,?_⟩) (λc d e h=>?_) rfl rfl rfl (λq c d e h=>?_) (λq o i h=>(h.bZ (λe=>by subst e;exact i cs (h.2.symm.trans b.2)) _).push _)
       · rw[abI,acq,abM (by simp[l];omega)];rw[←l,abA]at g;rw[g,acH];rfl
       ·simp only[I.row.injEq]at h;omega
       ·simp only[I.row.injEq]at h;right;omega
end Rb

namespace Rb
open Go
variable{H H':Z}{s:RS}{lx px:I}
section
variable{α:Type}{cells:α→List I}{sz:Nat}(hc:∀x,(cells x).length=sz)
include hc
theorem IV:∀xs:List α,(xs.flatMap cells).length=xs.length*sz
 |[]=>by simp
 |x::r=>by rw[abk,abI,hc,IV r,abJ,YA];omega
theorem Br:∀(xs:List α)(k:Nat),(xs.flatMap cells).take (k*sz)=(xs.take k).flatMap cells
 |[],k=>by simp
 |x::r,0=>by simp
 | x::r,k+1=>by rw[abk,List.take_succ_cons,abk,show(k+1)*sz=(cells x).length+k*sz by rw[hc,YA];omega,List.take_length_add_append,Br r k]
theorem S3(xs:List α){k:Nat}(a:k≤xs.length):c9 sz (av cells xs) none (some (M k)) none=some (av cells (xs.take k)):=by
 show c9 sz (.aq .dead xs.length (xs.flatMap cells)) none (some (M k)) none=some (.aq .dead (xs.take k).length ((xs.take k).flatMap cells));simp only[c9,eh,acw];rw[cY];simp only[Zc];rw[aa ⟨Yz _,a,IV hc xs⟩];by_cases e:k=xs.length
 · subst e;rw[aa ⟨trivial,rfl⟩,abA]
 ·rw[ae (λh=>e h.2),abv,abz,Br hc,aa trivial,aaW,ab3,acx a]
end
theorem b7.left{id:Nat}{H0 H H':Z}(h:b7 id H0 H)(k:Left H0.n H H'):b7 id H0 H':=⟨xl h.1 k.1,λj o b a=>k.2 j o (h.2 j o b a) (.inl a.1)⟩
structure kG(H:Z)(id:Nat)(vars:List U)(L:List (List UInt8))(s:RS)(lx px:I):Prop where
 row:At H id (.row (xc vars s lx px))
 loc:ka H id s.aS lx
 ok:s.ok
 len:s.aS.length≤1000000
 nm:s.stop=false→s.aS.map (·.1)=L
 fl:s.stop=false→0≤s.fuel∧s.fuel+s.aS.length≤1000000∧s.fuel+s.pr.length≤1000000
 pl:s.pr.length≤1000000
theorem kG.aI{id:Nat}{vars:List U}{L:List (List UInt8)}(h:kG H id vars L s lx px)(k:b7 id H H')(a:At H' id (.row (xc vars s lx px))):kG H' id vars L s lx px:=⟨a,h.loc.aI k,h.ok,h.len,h.nm,h.fl,h.pl⟩
theorem kG.next{id:Nat}{vars:List U}{L:List (List UInt8)}{s s':RS}(h:kG H id vars L s lx px)(k:b7 id H H')(b:At H' id (.row (xc vars s' lx px)))(a:Kp s s')(c:s'.ok):kG H' id vars L s' lx px:=
 ⟨b,by rw[a.aS];exact h.loc.aI k,c,by rw[a.aS];exact h.len,λe=>by rw[a.aS];exact h.nm (a.stop e),λe=>by have h1:=h.fl (a.stop e);have d:=a.fu h1.1 (by omega) e;rw[a.aS,a.pr];exact⟨d.1,by omega,by omega⟩,by rw[a.pr];exact h.pl⟩
section
variable{C:Ctx}(ak:bP C)(hT:Cl (ai C) S.bu){id:Nat}{vars:List U}{L:List (List UInt8)}
include ak hT
end
end Rb

namespace Rb
open Go
def e2(a:Int)(v:U):Int:=bM a (aZ v.type).1.2
def gM:Int→List U→Int
 |a,[]=>a
 |a,v::r=>gM (e2 a v+(aZ v.type).1.1) r
theorem S4{t:T}(h:(aZ t).2=0):eg t=0∧(A t).2=true∧(aZ t).1=(A t).1:=by
 unfold aZ at h ⊢;split at h
 ·rename_i q;exact absurd h q
 · rename_i q;rw[ae q];split at h
   ·cases h
   · rename_i b;rw[ae b];split at h
     ·cases h
     · rename_i a;rw[ae a];exact⟨by simpa using q,by simpa using a,rfl⟩
theorem xe{t:T}(h:(aZ t).2=0):0≤(aZ t).1.1∧(aZ t).1.1≤65536∧1≤(aZ t).1.2∧(aZ t).1.2≤16:=by obtain⟨h1,a,b⟩:=S4 h;rw[b];exact A2 t (fM h1) a
theorem Bs:∀{l:List U}{a:Int},(∀v∈l,(aZ v.type).2=0)→a≤gM a l
 |[],a,_=>ach _
 | v::r,a,h=>by have hb:=xe (h v (aap ..));have hu:=hj (n:=a) (step:=(aZ v.type).1.2) (by omega);have:=Bs (l:=r) (a:=e2 a v+(aZ v.type).1.1) (λw hw=>h w (aao _ hw));rw[gM];unfold e2 at this ⊢;omega
section
variable{C:Ctx}(ak:bP C)(hT:Cl (ai C) S.bu)
include ak hT
end
end Rb

namespace Rb
open Go
end Rb

namespace Rb
open Go
def bt(a:Int)(i:Nat):Bool:=a.toNat.testBit i
section
variable{C:Ctx}(ak:bP C)(hT:Cl (ai C) S.bu)
include ak hT
end
end Rb

namespace Rb
open Go
def cy:Int→List U→List bp
 |_,[]=>[]
 |a,v::r=>⟨65536+e2 a v,(aZ v.type).1.1,0,false,0,0⟩::cy (e2 a v+(aZ v.type).1.1) r
theorem IW:∀{l:List U}{a:Int}{b:List bp},0≤a→a≤65536→(∀v∈l,(aZ v.type).2=0)→gM a l≤65536→eH l a b=(0,gM a l,b++cy a l)
 |[],a,b,c,h1,hv,he=>by rw[eH,gM,cy,abQ]
 | v::r,a,b,c,h1,hv,he=>by
  have hz:=hv v (aap ..);have d:∀v∈r,(aZ v.type).2=0:=λw hw=>hv w (aao _ hw);obtain⟨b1,b2,b3,g⟩:=xe hz;have hu:=hj (n:=a) (step:=(aZ v.type).1.2) (by omega);rw[gM]at he ⊢;have hle:=Bs (a:=e2 a v+(aZ v.type).1.1) d;have h:e2 a v=bM a (aZ v.type).1.2:=rfl;have f:oh a v=e2 a v:=by have e:B (B (ab8 (B (B (a+(aZ v.type).1.2)-1)) (aZ v.type).1.2)*(aZ v.type).1.2)=e2 a v:=mR c (by omega) (by omega) (by omega);unfold oh;rw[e,bC]
  rw[IC,ae (by rw[hz];decide),f,show B (e2 a v+(aZ v.type).1.1)=e2 a v+(aZ v.type).1.1 from bI,show B (65536+e2 a v)=65536+e2 a v from bI,IW (by omega) (by omega) d he,cy,acI];rfl
theorem IX{vars:List U}(hv:∀v∈vars,(aZ v.type).2=0)(a:gM 0 vars≤65536):mapM vars=(0,gM 0 vars,cy 0 vars):=by unfold mapM;rw[IW (by decide) (by decide) hv a];simp only[acD];rw[el,bC]
theorem Bt:∀{l:List U}{a:Int}{n:Nat}{v:U},l[n]?=some v→∃g tl,(cy a l)[n]?=some g∧g={dq with at_:=g.at_,len:=g.len}∧(ea l (cy a l)).drop (n*3) = .str v.E :: M g.at_ :: M g.len::tl
 | w::r,a,0,v,h=>by simp at h;subst h;exact⟨_,_,rfl,rfl,rfl⟩
 | w::r,a,n+1,v,h=>by obtain⟨g,tl,h1,b,c⟩:=Bt (l:=r) (a:=e2 a w+(aZ w.type).1.1) (n:=n) (by simpa using h);refine⟨g,tl,h1,b,?_⟩;rw[cy,ea,show(n+1)*3=n*3+3 by omega];exact c
def S5(H:Z)(ix:I)(idx:List Int):Prop:=∀H',Z.Ext H H'→∀(k:Nat)(v:Int),idx[k]?=some v→∃p,aO none 1 ix (M k)=some p∧O H' 1 false p=some (bY v)
section
variable{C:Ctx}(ak:bP C)(hT:Cl (ai C) S.bu)
include ak hT
end
end Rb

namespace Rb
open Go
section
variable{C:Ctx}(ak:bP C)(hT:Cl (ai C) S.bu){id:Nat}{vars:List U}{L:List (List UInt8)}
include ak hT
end
end Rb

namespace Rb
open Go
section
variable{C:Ctx}(ak:bP C)(hT:Cl (ai C) S.bu){id:Nat}{vars:List U}{L:List (List UInt8)}
include ak hT
end
end Rb

namespace Rb
open Go
section
variable{C:Ctx}(ak:bP C)(hT:Cl (ai C) S.bu){id:Nat}{vars:List U}{L:List (List UInt8)}
include ak hT
end
end Rb

namespace Rb
open Go
section
variable{C:Ctx}(ak:bP C)(hT:Cl (ai C) S.bu){id:Nat}{vars:List U}{L:List (List UInt8)}
include ak hT
end
end Rb

namespace Rb
open Go
variable{id:Nat}{H a b H':Z}{s:RS}{lx px:I}
theorem xf(s:RS)(x:List UInt8)(v:Int):(s.put x v).aS.length=s.aS.length:=by
 unfold RS.put;split
 ·exact aam
 ·rfl
section
variable(vars:List U)
variable(c:Nat)
end
def gN(L:List (List UInt8))(x:aw):List (List UInt8):=if x.kind=1 then L++[x.E]else L
def mg(id:Nat)(H H':Z):Prop:=H.n≤H'.n∧∀j o,j<id→At H j o→At H' j o
theorem mg.refl(id:Nat)(H:Z):mg id H H:=⟨sl _,λ_ _ _ h=>h⟩
theorem mg.trans{a b c:Z}(h:mg id a b)(k:mg id b c):mg id a c:=⟨xl h.1 k.1,λj o d e=>k.2 j o d (h.2 j o d e)⟩
theorem b7.fr(h:b7 id a b):mg id a b:=⟨h.1,λj o c d=>h.2 j o (YM c) d⟩
theorem mg.set{id j:Nat}(c:id≤j)(x:bL):mg id a (a.set j x):=⟨sl _,λi o hi b=>b.bZ (by omega) x⟩
structure qk(H:Z)(id:Nat)(vars:List U)(L:List (List UInt8))(s:RS)(lx px:I):Prop where
 m:kG H id vars L s lx px
 p:cC (id+1) H 1 px s.pr.length (s.pr.map (bY))
 lj:∀j c d e,lx = .row j c d e→id<j
theorem cC.S6{sz a:Nat}{x:I}{cells:List I}(h:cC (id+1) H sz x a cells)(k:b7 id H H'):cC (id+1) H' sz x a cells:=by
 obtain⟨tk,b,hc,ht⟩:=h;refine⟨tk,b,hc,?_⟩;rcases ht with ht|ht|⟨t,h1,c,d⟩
 ·exact .inl ht
 ·exact .inr (.inl ht)
 ·exact .inr (.inr ⟨t,h1,c,k.2 t _ (by omega) d⟩)
theorem qk.kp{vars:List U}{L a:List (List UInt8)}{s s':RS}(h:qk H id vars L s lx px)(k:b7 id H H')(b:kG H' id vars a s' lx px)(hp:s'.pr=s.pr):qk H' id vars a s' lx px:=⟨b,by rw[hp];exact cC.S6 h.p k,h.lj⟩
theorem kG.over{vars:List U}{L a:List (List UInt8)}(h:kG H id vars L s lx px)(hs:s.stop=true):kG H id vars a s lx px:=⟨h.row,h.loc,h.ok,h.len,λe=>(by rw[hs]at e;cases e),h.fl,h.pl⟩
theorem qk.over{vars:List U}{L a:List (List UInt8)}(h:qk H id vars L s lx px)(hs:s.stop=true):qk H id vars a s lx px:=⟨h.m.over hs,h.p,h.lj⟩
end Rb

namespace Rb
open Go
variable{s:ba}{d:Int}
theorem hr{a:Bool}{e:Int}(h:(s.cG a e).bH=0)(b:e≠0):s.bH=0∧a=true:=by
 unfold ba.cG at h;split at h
 ·exact absurd h b
 · rename_i q;refine⟨h,?_⟩;cases a
   ·exact absurd ⟨rfl,h⟩ q
   ·rfl
theorem iC(s:ba)(a:Bool)(e:Int):(s.cG a e).g=s.g:=by unfold ba.cG;split<;>rfl
theorem xg{x:List UInt8}(h:s.has x=true):x∈s.g:=by
 unfold ba.has at h;obtain⟨y,a,e⟩:=aaB.1 h;have:x=y:=by simpa using e
 rw[this];exact a
theorem S7{e:X}(h:(eA s d e).bH=0):s.bH=0∧hZ e=true:=by unfold eA at h;have h1:=hr h (by decide);have a:=hr h1.1 (by decide);have b:=hr a.1 (by decide);exact⟨b.1,a.2⟩
theorem S8(s:ba)(d:Int)(e:X):(eA s d e).g=s.g:=by unfold eA;rw[iC,iC,iC]
theorem S9{e:aw}(h:(gd s d e).bH=0):s.bH=0∧jl e=true:=by unfold gd at h;have h1:=hr h (by decide);have a:=hr h1.1 (by decide);have b:=hr a.1 (by decide);exact⟨b.1,a.2⟩
theorem IY(s:ba)(d:Int)(e:aw):(gd s d e).g=s.g:=by unfold gd;rw[iC,iC,iC]
section
variable(vars:List U)
theorem S_(s:ba)(k:Int)(x:aM):(j6 vars s k x).g=s.g:=by unfold j6;dsimp only;rw[iC,iC]
variable(kw:List UInt8→Bool)
theorem Ta{x:aw}(h:jl x=true):1≤x.kind∧x.kind≤10∧x.bc.length≤2∧(¬(3≤x.kind∧x.kind≤7)→1≤x.bc.length)∧(x.kind=1→x.be=[]∧x.bw=[]):=by
 unfold jl at h;simp only[X7,dQ,X8,bG]at h;obtain⟨⟨⟨⟨⟨⟨⟨h1,d⟩,_⟩,_⟩,_⟩,a⟩,b⟩,c⟩:=h;unfold eG at a b c;refine⟨h1,d,?_,λe=>?_,λe=>?_⟩
 · repeat' split at a
   all_goals (dsimp only at a;omega)
 · repeat' split at a
   all_goals (dsimp only at a;omega)
 · rw[aa (.inl e)]at b c;simp at b c;exact⟨b,c⟩
theorem Tb(L:List (List UInt8))(x:aw){n:Nat}(h:n≤L.length):(gN L x).take n=L.take n∧n≤(gN L x).length:=by
 unfold gN;split
 ·exact⟨by rw[abL h],by rw[abI];omega⟩
 ·exact⟨rfl,h⟩
end
end Rb

namespace Rb
open Go
variable{s:ba}{d:Int}{x:aw}
section
variable(vars:List U)
mutual
def vE(L:List (List UInt8)):X→Prop
 | .mk kind n E op aV place bn=>hZ (.mk kind n E op aV place bn)=true∧iw (B (10+kind)) aV=true∧(kind=2→E∈L)∧(kind≥4→vP L (B (10+kind)) place)∧h2 L bn
def h2(L:List (List UInt8)):List X→Prop
 |[]=>True
 |e::r=>vE L e∧h2 L r
def vP(L:List (List UInt8))(k:Int):aM→Prop
 | .mk var aC=>(bV vars (.mk var aC)).1=0∧j5 k (bV vars (.mk var aC)).2=true∧lK L aC
def lK(L:List (List UInt8)):List K→Prop
 |[]=>True
 |p::r=>vR L p∧lK L r
def vR(L:List (List UInt8)):K→Prop
 | .mk field bb=>h2 L bb
end
mutual
def vS(L:List (List UInt8)):aw→Prop
 | .mk kind V E cg aV place bc be bw=>jl (.mk kind V E cg aV place bc be bw)=true∧iw kind aV=true∧(kind=1→E∉L)∧(kind=2→E∈L)∧(kind=5→E∈L∧cg∈L∧E≠cg)∧(3≤kind∧kind≤6→vP vars L kind place)∧h2 vars L bc∧vB L be∧vB L bw
def vB(L:List (List UInt8)):List aw→Prop
 |[]=>True
 |x::r=>vS L x∧vB (gN L x) r
end
theorem IZ(L:List (List UInt8))(e:X):vE vars L e↔hZ e=true∧iw (B (10+e.kind)) e.aV=true∧(e.kind=2→e.E∈L)∧(e.kind≥4→vP vars L (B (10+e.kind)) e.place)∧h2 vars L e.bn:=by cases e;rw[vE]
theorem mW(L:List (List UInt8))(k:Int)(x:aM):vP vars L k x↔(bV vars x).1=0∧j5 k (bV vars x).2=true∧lK vars L x.aC:=by cases x;rw[vP]
theorem Tc(L:List (List UInt8))(p:K):vR vars L p↔h2 vars L p.bb:=by cases p;rw[vR]
theorem I0(L:List (List UInt8))(x:aw):vS vars L x↔jl x=true∧iw x.kind x.aV=true∧(x.kind=1→x.E∉L)∧(x.kind=2→x.E∈L)∧(x.kind=5→x.E∈L∧x.cg∈L∧x.E≠x.cg)∧(3≤x.kind∧x.kind≤6→vP vars L x.kind x.place)∧h2 vars L x.bc∧vB vars L x.be∧vB vars L x.bw:=by cases x;rw[vS]
theorem Td{k:Int}{x:aM}(h:(j6 vars s k x).bH=0):(bV vars x).1=0∧j5 k (bV vars x).2=true:=by
 unfold j6 at h;dsimp only at h;have h1:=hr h (by decide);refine⟨?_,?_⟩
 · by_cases hp:(bV vars x).1=0
   ·exact hp
   · have:=(hr h1.1 hp).2;simpa using this
 · have a:=h1.2;rw[h1.1]at a;simpa using a
theorem Te{e:X}(h:(eA s d e).bH=0):iw (B (10+e.kind)) e.aV=true:=by unfold eA at h;exact(hr h (by decide)).2
theorem Tf(h:(gd s d x).bH=0):iw x.kind x.aV=true:=by unfold gd at h;exact(hr h (by decide)).2
theorem Tg{x:List UInt8}(h:(!s.has x)=true):x∉s.g:=by
 intro a;have:s.has x=true:=by unfold ba.has;rw[aaB];exact⟨x,a,by simp⟩
 rw[this]at h;cases h
mutual
theorem I1:∀(e:X)(s:ba)(d:Int),(lC vars s d e).bH=0→s.bH=0∧(lC vars s d e).g=s.g∧vE vars s.g e
 | .mk kind n E op aV place bn,s,d,h=>by
  rw[lC]at h ⊢;by_cases j:(eA s d (.mk kind n E op aV place bn)).bH≠0
  ·rw[aa j]at h;exact absurd h j
  · rw [ae j]at h ⊢;have hz:(eA s d (.mk kind n E op aV place bn)).bH=0:=by simpa using j
    have hl:=S8 s d (.mk kind n E op aV place bn);obtain⟨m,z2⟩:=S7 hz;have z3:=Te hz;obtain⟨e1,b,a⟩:=Bu bn _ d h;rw[b,vE];by_cases hk:kind≥4
    · rw[aa hk,ae (show ¬kind=2 by omega)]at e1 b a ⊢;obtain⟨v,u,t⟩:=I2 place _ _ d e1;rw[u,hl]at a ⊢;rw[hl]at t;exact⟨m,rfl,z2,z3,λq=>absurd q (by omega),λ_=>t,a⟩
    · rw [ae hk]at e1 b a ⊢;by_cases o:kind=2
      · rw[aa o]at e1 b a ⊢;rw[iC,hl]at a ⊢;have:=xg (hr e1 (by decide)).2;rw[hl]at this;exact⟨m,rfl,z2,z3,λ_=>this,λq=>absurd q (by omega),a⟩
      · rw[ae o,hl]at a ⊢;exact⟨m,rfl,z2,z3,λe=>absurd e o,λq=>absurd q (by omega),a⟩
theorem Bu:∀(l:List X)(s:ba)(d:Int),(eB vars s d l).bH=0→s.bH=0∧(eB vars s d l).g=s.g∧h2 vars s.g l
 |[],s,d,h=>by rw[eB]at h ⊢;exact⟨h,rfl,trivial⟩
 | e :: r,s,d,h=>by
  rw[eB]at h ⊢;obtain⟨e1,b,a⟩:=Bu r _ d h;by_cases hs:s.bH≠0
  ·rw[aa hs]at e1;exact absurd e1 hs
  · rw[ae hs]at e1 b a ⊢;obtain⟨f,c,i⟩:=I1 e s _ e1;rw[b,c];rw[c]at a;rw[h2];exact⟨f,rfl,i,a⟩
theorem I2:∀(x:aM)(s:ba)(k d:Int),(j7 vars s k d x).bH=0→s.bH=0∧(j7 vars s k d x).g=s.g∧vP vars s.g k x
 | .mk var aC,s,k,d,h=>by
  rw[j7]at h ⊢;by_cases hs:s.bH≠0
  ·rw[aa hs]at h;exact absurd h hs
  · rw[ae hs]at h ⊢;obtain⟨e1,b,a⟩:=I3 aC _ d h;obtain⟨f1,f2⟩:=Td vars e1;rw[S_]at b a;rw[vP];exact⟨by simpa using hs,b,f1,f2,a⟩
theorem I3:∀(l:List K)(s:ba)(d:Int),(hg vars s d l).bH=0→s.bH=0∧(hg vars s d l).g=s.g∧lK vars s.g l
 |[],s,d,h=>by rw[hg]at h ⊢;exact⟨h,rfl,trivial⟩
 | p::r,s,d,h=>by rw[hg]at h ⊢;obtain⟨e1,b,a⟩:=I3 r _ d h;obtain⟨f,c,i⟩:=Th p s d e1;rw[b,c];rw[c]at a;rw[lK];exact⟨f,rfl,i,a⟩
theorem Th:∀(p:K)(s:ba)(d:Int),(mP vars s d p).bH=0→s.bH=0∧(mP vars s d p).g=s.g∧vR vars s.g p
 | .mk field bb,s,d,h=>by rw[mP]at h ⊢;rw[vR];exact I4 bb s d h
theorem I4:∀(l:List X)(s:ba)(d:Int),(jH vars s d l).bH=0→s.bH=0∧(jH vars s d l).g=s.g∧h2 vars s.g l
 |[],s,d,h=>by rw[jH]at h ⊢;exact⟨h,rfl,trivial⟩
 | e::r,s,d,h=>by rw[jH]at h ⊢;obtain⟨e1,b,a⟩:=I4 r _ d h;obtain⟨f,c,i⟩:=I1 e s _ e1;rw[b,c];rw[c]at a;rw[h2];exact⟨f,rfl,i,a⟩
end
variable(kw:List UInt8→Bool)
theorem Ti(h:(gL vars kw s d x).bH=0):s.bH=0∧(gL vars kw s d x).g=s.g∧(x.kind=1→x.E∉s.g)∧(x.kind=2→x.E∈s.g)∧(3≤x.kind∧x.kind≤6→vP vars s.g x.kind x.place):=by
 unfold gL at h ⊢;by_cases h1:x.kind=1
 · rw[aa h1]at h ⊢;rw[iC,iC,iC];have a:=hr h (by decide);have z2:=hr a.1 (by decide);have z3:=hr z2.1 (by decide);refine⟨z3.1,rfl,λ_=>?_,λe=>by omega,λe=>by omega⟩;have:=Tg z2.2;exact this
 · rw [ae h1]at h ⊢;by_cases b:x.kind=2
   · rw[aa b]at h ⊢;rw[iC];have a:=hr h (by decide);exact⟨a.1,rfl,λe=>absurd e h1,λ_=>xg a.2,λe=>by omega⟩
   · rw [ae b]at h ⊢;by_cases c:x.kind=3∨x.kind=4∨x.kind=5∨x.kind=6
     · rw[aa c]at h ⊢;obtain⟨f,i,j⟩:=I2 vars x.place s _ d h;exact⟨f,i,λe=>absurd e h1,λe=>absurd e b,λ_=>j⟩
     · rw[ae c]at h ⊢;exact⟨h,rfl,λe=>absurd e h1,λe=>absurd e b,λe=>by omega⟩
theorem Tj(h:(jm s x).bH=0):s.bH=0∧(jm s x).g=gN s.g x∧(x.kind=5→x.E∈s.g∧x.cg∈s.g∧x.E≠x.cg):=by
 unfold jm at h ⊢;unfold gN;by_cases h1:x.kind=1
 · rw[aa h1]at h ⊢;rw[aa h1];exact⟨h,rfl,λe=>by omega⟩
 · rw [ae h1]at h ⊢;rw[ae h1];by_cases a:x.kind=5
   · rw [aa a]at h ⊢;rw[iC,iC,iC];have b:=hr h (by decide);have z2:=hr b.1 (by decide);have z3:=hr z2.1 (by decide);refine⟨z3.1,rfl,λ_=>⟨xg z3.2,?_,?_⟩⟩
     ·exact xg z2.2
     · have:=b.2;simpa using this
   · rw[ae a]at h ⊢;exact⟨h,rfl,λe=>absurd e a⟩
theorem Tk(h:(gg vars kw s d x).bH=0):s.bH=0∧(gg vars kw s d x).g=gN s.g x∧jl x=true∧iw x.kind x.aV=true∧(x.kind=1→x.E∉s.g)∧(x.kind=2→x.E∈s.g)∧(x.kind=5→x.E∈s.g∧x.cg∈s.g∧x.E≠x.cg)∧(3≤x.kind∧x.kind≤6→vP vars s.g x.kind x.place)∧h2 vars s.g x.bc:=by unfold gg at h ⊢;obtain⟨r1,a,b⟩:=Tj h;obtain⟨e1,c,e⟩:=Bu vars x.bc _ d r1;obtain⟨f1,f2,f0,f3,f4⟩:=Ti vars kw e1;obtain⟨f,z2⟩:=S9 f1;have z3:=Tf f1;rw[f2,IY]at c e;rw[IY]at f0 f3 f4;rw[c]at a b;exact⟨f,a,z2,z3,f0,f3,b,f4,e⟩
mutual
theorem Tl:∀(x:aw)(s:ba)(d:Int),(stM vars kw s d x).bH=0→s.bH=0∧(stM vars kw s d x).g=gN s.g x∧vS vars s.g x
 | .mk kind V E cg aV place bc be bw,s,d,h=>by
  rw[stM]at h ⊢;obtain⟨b1,b2,b3⟩:=xh bw _ _ _ (sl _) h;obtain⟨a1,a2,a3⟩:=xh be _ _ _ (sl _) b1;have j:=b2.trans (show(List.take _ _)=_ from abA);obtain⟨c1,c2,c3,k,c5,m,o,p,t⟩:=Tk vars kw a1;have c:(fj vars kw (gg vars kw s d (.mk kind V E cg aV place bc be bw)) (gg vars kw s d (.mk kind V E cg aV place bc be bw)).g.length (B (d+1)) be).g=gN s.g (.mk kind V E cg aV place bc be bw):=by rw[a2,abA,c2]
  have b:vB vars (fj vars kw (gg vars kw s d (.mk kind V E cg aV place bc be bw)) (gg vars kw s d (.mk kind V E cg aV place bc be bw)).g.length (B (d+1)) be).g bw:=b3;rw[c]at b;rw[c2]at a3;obtain⟨g1,g2,g3,g4,g5⟩:=Ta c3;refine⟨c1,j.trans c,?_⟩;rw[vS];refine⟨c3,k,c5,m,o,p,t,?_,?_⟩
  · by_cases hk:kind=1
    · have:be=[]:=(g5 hk).1;subst this;rw[vB];trivial
    · have e:gN s.g (.mk kind V E cg aV place bc be bw)=s.g:=by unfold gN;rw[ae hk]
      rw[e]at a3;exact a3
  · by_cases hk:kind=1
    · have:bw=[]:=(g5 hk).2;subst this;rw[vB];trivial
    · have e:gN s.g (.mk kind V E cg aV place bc be bw)=s.g:=by unfold gN;rw[ae hk]
      rw[e]at b;exact b
theorem xh:∀(l:List aw)(s:ba)(n:Nat)(d:Int),n≤s.g.length→(fj vars kw s n d l).bH=0→s.bH=0∧(fj vars kw s n d l).g=s.g.take n∧vB vars s.g l
 |[],s,n,d,hn,h=>by rw[fj]at h ⊢;rw[vB];exact⟨h,rfl,trivial⟩
 | x :: r,s,n,d,hn,h=>by
  rw[fj]at h ⊢;by_cases hs:s.bH≠0
  ·rw[aa hs,AN vars kw hs]at h;exact absurd h hs
  · rw [ae hs]at h ⊢;have hz:(stM vars kw (s.at x.V) d x).bH=0:=by
     by_cases q:(stM vars kw (s.at x.V) d x).bH=0
     ·exact q
     ·rw[AN vars kw q]at h;exact absurd h q
    obtain⟨v,a,u⟩:=Tl x (s.at x.V) d hz;have a:(stM vars kw (s.at x.V) d x).g=gN s.g x:=a;obtain⟨t1,t2⟩:=Tb s.g x hn;obtain⟨r1,f,i⟩:=xh r (stM vars kw (s.at x.V) d x) n d (by rw[a];exact t2) h;rw[a]at f i;rw[vB];exact⟨by simpa using hs,f.trans t1,u,i⟩
end
theorem Tm{p:cA}(h:(fN kw p).2=0):p.vars.length≤32∧lG kw p.vars=0∧∀t∈p.dj,vB p.vars [] t:=by
 unfold fN at h;split at h
 ·cases h
 · rename_i h1;split at h
   ·rename_i a;exact absurd h a
   · rename_i a;rw[HP]at h;refine⟨by omega,by simpa using a,λt ht=>?_⟩;exact(xh p.vars kw t s0 0 1 (sl _) (h t ht)).2.2
end
end Rb

namespace Rb
open Go
structure RS.A(d:Int)(rest:List (Int×Int))(s1 s2:RS):Prop where
 eq:s2={s1 with fuel:=s1.fuel+d,dG:=s1.dG++rest}
 d0:0≤d
 fu:s1.stop=false→0≤s1.fuel∧s1.fuel+d≤1000000
 em:s1.empty=true→s1.stop=true
structure RS.D(d:Int)(rest:List (Int×Int))(s1 s2:RS):Prop where
 st:s1.stop=true
 pr:s1.pr <+: s2.pr
 em:s1.empty=true→0<d
 an:s1.empty=false→rest≠[]
theorem RS.D.right{d:Int}{rest:List (Int×Int)}{a b c:RS}(h:RS.D d rest a b)(hp:b.pr <+: c.pr):RS.D d rest a c:=⟨h.st,h.pr.trans hp,h.em,h.an⟩
theorem RS.A.stop{d:Int}{rest:List (Int×Int)}{a b:RS}(h:RS.A d rest a b):b.stop=a.stop:=by rw[h.eq]
theorem RS.A.aS{d:Int}{rest:List (Int×Int)}{a b:RS}(h:RS.A d rest a b):b.aS=a.aS:=by rw[h.eq]
section
variable{d:Int}{rest:List (Int×Int)}
variable(vars:List U)
end
end Rb

namespace Rb
open Go
section
variable{d:Int}{rest:List (Int×Int)}
theorem RS.D.step{a b c t2:RS}(h:RS.D d rest a b)(k1:Ks a c)(k2:Ks b t2):RS.D d rest c t2:=by rw[k1.st h.st];exact h.right k2.pr
variable(vars:List U)
variable(c:Nat)
end
end Rb

namespace Rb
open Go
structure b8 where
 what:Int
 n:Int
 k:Int
 j:Int
 x:aM
 kind:Int
 aV:Int
 site:Int
 V:Int
def I5:aM:=⟨[],[]⟩
def jJ(ln a n k:Int):b8:=⟨a,n,k,0,I5,0,0,0,ln⟩
def kH(o:Int)(L:List (List UInt8×Nat))(x:List UInt8):Int:=L.foldl (λo p=>if p.1=x then(p.2:Int)else o) o
def Tn(L:List (List UInt8×Nat))(ln kind n:Int)(E:List UInt8)(op aV:Int)(place:aM)(a:Int):b8:=
 if kind=1 then jJ ln 2 n 0 else if kind=2 then jJ ln 3 0 (kH (-1) L E)else if kind=3 then jJ ln 5 0 op
 else⟨7,0,0,0,place,kind,aV,a,ln⟩
section
variable(vars:List U)(L:List (List UInt8×Nat))(ln:Int)
mutual
def Bv:X→Int→List b8
 | .mk kind n E op aV place bn,a=>jJ ln 1 0 0::(xi place a++Bw bn (B (a+j8 place))++[Tn L ln kind n E op aV place (B (B (B (a+j8 place)+kB bn 0)+1))])
def Bw:List X→Int→List b8
 |[],a=>[]
 |e::r,a=>Bv e a++Bw r (B (a+AO e 0))
def xi:aM→Int→List b8
 | .mk var aC,a=>Bz (.mk var aC) aC 0 a
def Bz(x:aM):List K→Nat→Int→List b8
 |[],k,a=>[]
 | p::r,k,a=>match To p a with
  |none=>Bz x r (k+1) a
  |some l=>l++(jJ ln 6 (qc (nX vars ⟨x.var,x.aC.take k⟩)) 0::Bz x r (k+1) (B (a+HR p 0)))
def To:K→Int→Option (List b8)
 | .mk field bb,a=>Tp bb a
def Tp:List X→Int→Option (List b8)
 |[],_=>none
 |e::_,a=>some (Bv e a)
end
end
mutual
def sk:X→Nat
 | .mk kind n E op aV place bn=>1+mX place+lM bn
def lM:List X→Nat
 |[]=>0
 |e::r=>sk e+lM r
def mX:aM→Nat
 | .mk var aC=>mY aC
def mY:List K→Nat
 |[]=>0
 |p::r=>so p+mY r
def so:K→Nat
 | .mk field bb=>1+lM bb
end
structure I6 where
 want:mf
 fin:Int
 pr:List Int
 empty:Bool
def Mx:Nat:=1000000000
def mh(vars:List U)(x:aM):Prop:=(bV vars x).1=0∧((bV vars x).2.kind=1∨(bV vars x).2.kind=2)
structure BA(vars:List U)(A:List b8)(dG:List (Int×Int))(P:Nat→List Int→List Int→Nat→Int→List Int→Prop)(R:I6→Prop):Prop where
 XI:∀{pc:Nat}{st G:List Int}{u:Nat}{f:Int}{pr:List Int}{a:b8},A[pc]?=some a→a.what=1→f<1→R ⟨r3,0,[],true⟩→P pc st G u f pr
 XJ:∀{pc:Nat}{st G:List Int}{u:Nat}{f:Int}{pr:List Int}{a:b8},A[pc]?=some a→a.what=1→¬f<1→P (pc+1) st G u (B (f-1)) pr→P pc st G u f pr
 push:∀{pc:Nat}{st G:List Int}{u:Nat}{f:Int}{pr:List Int}{a:b8},A[pc]?=some a→a.what=2→st.length≤Mx→P (pc+1) (st++[a.n]) G u f pr→P pc st G u f pr
 loc:∀{pc:Nat}{st G:List Int}{u:Nat}{f:Int}{pr:List Int}{a:b8}{k:Nat}{v:Int},A[pc]?=some a→a.what=3→a.k=(k:Int)→G[k]?=some v→st.length≤Mx→P (pc+1) (st++[v]) G u f pr→P pc st G u f pr
 aI:∀{pc:Nat}{st G:List Int}{u:Nat}{f:Int}{pr:List Int}{a:b8}{k:Nat}{v:Int},A[pc]?=some a→a.what=4→a.k=(k:Int)→k<G.length→P (pc+1) st (G.set k v) u f pr→P pc (st++[v]) G u f pr
 bin:∀{pc:Nat}{st G:List Int}{u:Nat}{f:Int}{pr:List Int}{a:b8}{x:Int}{y:Int},A[pc]?=some a→a.what=5→1≤a.k→a.k≤11→P (pc+1) (st++[RW a.k x y]) G u f pr→P pc (st++[x,y]) G u f pr
 XK:∀{pc:Nat}{st G:List Int}{u:Nat}{f:Int}{pr:List Int}{a:b8}{v:Int},A[pc]?=some a→a.what=6→v≥a.n→R ⟨r3,2,pr,false⟩→P pc (st++[v]) G u f pr
 XL:∀{pc:Nat}{st G:List Int}{u:Nat}{f:Int}{pr:List Int}{a:b8}{v:Int},A[pc]?=some a→a.what=6→¬v≥a.n→P (pc+1) (st++[v]) G u f pr→P pc (st++[v]) G u f pr
 jump:∀{pc:Nat}{st G:List Int}{u:Nat}{f:Int}{pr:List Int}{a:b8}{k:Nat},A[pc]?=some a→a.what=11→a.k=(k:Int)→k≤A.length→P k st G u f pr→P pc st G u f pr
 XM:∀{pc:Nat}{st G:List Int}{u:Nat}{f:Int}{pr:List Int}{a:b8}{k:Nat},A[pc]?=some a→a.what=12→a.k=(k:Int)→k≤A.length→P k st G u f pr→P pc (st++[0]) G u f pr
 XN:∀{pc:Nat}{st G:List Int}{u:Nat}{f:Int}{pr:List Int}{a:b8}{v:Int},A[pc]?=some a→a.what=12→v≠0→P (pc+1) st G u f pr→P pc (st++[v]) G u f pr
 print:∀{pc:Nat}{st G:List Int}{u:Nat}{f:Int}{pr:List Int}{a:b8}{v:Int},A[pc]?=some a→a.what=13→pr.length≤Mx→P (pc+1) st G u f (pr++[v])→P pc (st++[v]) G u f pr
 XO:∀{pc:Nat}{st G:List Int}{u:Nat}{f:Int}{pr:List Int}{a:b8},A[pc]?=some a→a.what=10→u=dG.length→R ⟨⟨4,a.site,a.V,dq,a.aV,0,0,0⟩,0,pr,false⟩→P pc st G u f pr
 XP:∀{pc:Nat}{st G:List Int}{u:Nat}{f:Int}{pr:List Int}{a:b8}{g:Int×Int},A[pc]?=some a→a.what=10→dG[u]?=some g→P (pc+1) st G (u+1) f pr→P pc st G u f pr
 XQ:∀{pc:Nat}{st G:List Int}{u:Nat}{f:Int}{pr:List Int}{a:b8}{idx:List Int}{vs:List Int},A[pc]?=some a→a.what=7→4≤a.kind→a.kind≤8→mh vars a.x→(idx.length:Int)=gB a.x.aC 0→(vs.length:Int)=(iy a.kind).1→u=dG.length →
  R ⟨⟨if a.kind≥6 then 3 else 1,a.site,a.V,d_ vars a.x idx,a.aV,if a.kind≥6 then a.kind else 0,vs.getD 0 0,vs.getD 1 0⟩,0,pr,false⟩→P pc (st++idx++vs) G u f pr
 XR:∀{pc:Nat}{st G:List Int}{u:Nat}{f:Int}{pr:List Int}{a:b8}{idx:List Int}{vs:List Int}{g:Int×Int},A[pc]?=some a→a.what=7→4≤a.kind→a.kind≤8→mh vars a.x→(idx.length:Int)=gB a.x.aC 0→(vs.length:Int)=(iy a.kind).1→dG[u]?=some g→st.length≤Mx →
  P (pc+1) (st++[if(d_ vars a.x idx).bits=true then RU g.1 (d_ vars a.x idx).bit (d_ vars a.x idx).aN else g.1]) G (u+1) f pr→P pc (st++idx++vs) G u f pr
 XS:∀{pc:Nat}{st G:List Int}{u:Nat}{f:Int}{pr:List Int}{a:b8}{idx:List Int}{vs:List Int},A[pc]?=some a→a.what=8→mh vars a.x→(idx.length:Int)=gB a.x.aC 0→vs.length=(if a.kind=6 then 2 else 1)→(d_ vars a.x idx).bits=false→u=dG.length →
  R ⟨⟨2,a.site,a.V,d_ vars a.x idx,a.aV,0,HV (d_ vars a.x idx) 0 (vs.getD 0 0),vs.getD 1 0⟩,0,pr,false⟩→P pc (st++idx++vs) G u f pr
 XT:∀{pc:Nat}{st G:List Int}{u:Nat}{f:Int}{pr:List Int}{a:b8}{idx:List Int}{vs:List Int}{g:Int×Int},A[pc]?=some a→a.what=8→mh vars a.x→(idx.length:Int)=gB a.x.aC 0→vs.length=(if a.kind=6 then 2 else 1)→(d_ vars a.x idx).bits=false→dG[u]?=some g →
  P (pc+1) st G (u+1) f pr→P pc (st++idx++vs) G u f pr
 XU:∀{pc:Nat}{st G:List Int}{u:Nat}{f:Int}{pr:List Int}{a:b8}{idx:List Int}{vs:List Int},A[pc]?=some a→a.what=8→mh vars a.x→(idx.length:Int)=gB a.x.aC 0→vs.length=(if a.kind=6 then 2 else 1)→(d_ vars a.x idx).bits=true→u=dG.length →
  R ⟨⟨1,a.site,a.V,d_ vars a.x idx,a.aV,0,0,0⟩,0,pr,false⟩→P pc (st++idx++vs) G u f pr
 XV:∀{pc:Nat}{st G:List Int}{u:Nat}{f:Int}{pr:List Int}{a:b8}{idx:List Int}{vs:List Int}{g:Int×Int},A[pc]?=some a→a.what=8→mh vars a.x→(idx.length:Int)=gB a.x.aC 0→vs.length=(if a.kind=6 then 2 else 1)→(d_ vars a.x idx).bits=true→dG[u]?=some g→u+1=dG.length →
  R ⟨⟨2,a.site,a.V,d_ vars a.x idx,a.aV,0,HV (d_ vars a.x idx) g.1 (vs.getD 0 0),vs.getD 1 0⟩,0,pr,false⟩→P pc (st++idx++vs) G u f pr
 XW:∀{pc:Nat}{st G:List Int}{u:Nat}{f:Int}{pr:List Int}{a:b8}{idx:List Int}{vs:List Int}{g:Int×Int}{g':Int×Int},A[pc]?=some a→a.what=8→mh vars a.x→(idx.length:Int)=gB a.x.aC 0→vs.length=(if a.kind=6 then 2 else 1)→(d_ vars a.x idx).bits=true→dG[u]?=some g→dG[u+1]?=some g' →
  P (pc+1) st G (u+2) f pr→P pc (st++idx++vs) G u f pr
 wL:∀{pc:Nat}{st G:List Int}{u:Nat}{f:Int}{pr:List Int}{a:b8}{idx:List Int},A[pc]?=some a→a.what=9→mh vars a.x→(idx.length:Int)=gB a.x.aC 0→u=dG.length →
  R ⟨⟨1,a.site,a.V,d_ vars a.x idx,a.aV,0,0,0⟩,0,pr,false⟩→P pc (st++idx) G u f pr
 AF:∀{pc:Nat}{st G:List Int}{u:Nat}{f:Int}{pr:List Int}{a:b8}{idx:List Int}{g:Int×Int}{k j:Nat},A[pc]?=some a→a.what=9→mh vars a.x→(idx.length:Int)=gB a.x.aC 0→a.k=(k:Int)→a.j=(j:Int)→k<G.length→j<G.length→dG[u]?=some g →
  P (pc+1) st ((G.set k g.1).set j g.2) (u+1) f pr→P pc (st++idx) G u f pr
 fin:∀{pc:Nat}{st G:List Int}{u:Nat}{f:Int}{pr:List Int},pc=A.length→R ⟨r3,1,pr,false⟩→P pc st G u f pr
def mi(A:List b8)(pc:Nat)(l:List b8):Prop:=∀i x,l[i]?=some x→A[pc+i]?=some x
theorem mi.cons{A:List b8}{pc:Nat}{x:b8}{l:List b8}(h:mi A pc (x::l)):A[pc]?=some x∧mi A (pc+1) l:=⟨h 0 x rfl,λi y a=>by have:=h (i+1) y (by simpa using a);rw[show pc+1+i=pc+(i+1) by omega];exact this⟩
theorem mi.app{A:List b8}{pc:Nat}{l m:List b8}(h:mi A pc (l++m)):mi A pc l∧mi A (pc+l.length) m:=by
 refine⟨λi y a=>h i y ?_,λi y a=>?_⟩
 ·rw[ZE (X1.1 a).1];exact a
 · have:=h (l.length+i) y (by rw[ZF (by omega),Nat.add_sub_cancel_left];exact a);rw[Nat.add_assoc];exact this
structure St(dG:List (Int×Int))(s:RS)(u:Nat):Prop where
 go:s.stop=false
 em:s.empty=false
 wz:s.want=r3
 fz:s.fin=0
 an:s.dG=dG.drop u
 le:u≤dG.length
structure LR(L:List (List UInt8×Nat))(aS:List (List UInt8×Int))(G:List Int):Prop where
 nm:aS.map (·.1)=L.map (·.1)
 vl:∀(i:Nat)(p:List UInt8×Nat)(l:List UInt8×Int),L[i]?=some p→aS[i]?=some l→G[p.2]?=some l.2
 nd:(L.map (·.1)).Nodup
theorem I7{o:Int}{x:List UInt8}:∀{L:List (List UInt8×Nat)},x∉L.map (·.1)→kH o L x=o
 |[],_=>rfl
 | p::r,h=>by simp only[Zp,aan,not_or]at h;unfold kH;rw[YB,ae (λe=>h.1 e.symm)];exact I7 h.2
theorem I8:∀{L:List (List UInt8×Nat)}{o:Int}{i:Nat}{p:List UInt8×Nat},(L.map (·.1)).Nodup→L[i]?=some p→kH o L p.1=p.2
 | q::r,o,0,p,hn,h=>by simp at h;subst h;simp only[Zp,acJ]at hn;unfold kH;rw[YB,aa rfl];exact I7 hn.1
 | q::r,o,i+1,p,hn,h=>by simp only[Zp,acJ]at hn;unfold kH;rw[YB];exact I8 (i:=i) hn.2 (by simpa using h)
theorem LR.get{L:List (List UInt8×Nat)}{s:RS}{G:List Int}(h:LR L s.aS G){x:List UInt8}(a:x∈L.map (·.1)):∃k i,kH (-1) L x=(k:Nat)∧G[k]?=some (s.get x)∧L[i]?=some (x,k)∧s.aS.findIdx? (λl=>l.1==x)=some i:=by
 rw[←h.nm]at a;obtain⟨i,hi⟩:=S2 a;obtain⟨l,h1,c,d,_⟩:=IU hi;have hn:(L.map (·.1))[i]?=some x:=by rw[←h.nm,YT,h1,←c];rfl
 rw[YT]at hn;cases hp:L[i]? with
 |none=>rw[hp]at hn;cases hn
 | some p=>
  rw[hp]at hn;have b:p.1=x:=by simpa using hn
  refine⟨p.2,i,?_,?_,?_,hi⟩
  ·rw[←b];exact I8 h.nd hp
  ·rw[d];exact h.vl i p l hp h1
  ·rw[←b];exact hp
end Rb

namespace Rb
open Go
theorem drop_cons{α:Type}{l:List α}{u:Nat}{g:α}(h:l[u]?=some g):l.drop u=g::l.drop (u+1):=by obtain⟨hu,he⟩:=X1.1 h;rw[List.drop_eq_getElem_cons hu,he]
theorem St.next{dG:List (Int×Int)}{s:RS}{u:Nat}(h:St dG s u):u=dG.length∨∃g,dG[u]?=some g:=by
 by_cases e:u=dG.length
 ·exact .inl e
 · right;have:=h.le;exact ⟨dG[u]'(by omega), YU _⟩
structure BB where
 vars:List U
 A:List b8
 dG:List (Int×Int)
 P:Nat→List Int→List Int→Nat→Int→List Int→Prop
 R:I6→Prop
section
variable{E:BB}(S:BA E.vars E.A E.dG E.P E.R){L:List (List UInt8×Nat)}{G:List Int}{ln:Int}
include S
end
end Rb

namespace Rb
open Go
theorem xj(vars:List U)(L:List (List UInt8)):∀{l:List X},h2 vars L l↔∀e∈l,vE vars L e
 |[]=>by simp[h2]
 |e::r=>by simp[h2,xj vars L (l:=r)]
theorem I9(vars:List U)(L:List (List UInt8)):∀{l:List K},lK vars L l↔∀p∈l,∀e∈p.bb,vE vars L e
 |[]=>by simp[lK]
 |p::r=>by simp[lK,Tc,xj,I9 vars L (l:=r)]
theorem oi{e:X}(h:hZ e=true):1≤e.kind∧e.kind≤8∧(e.kind≤3→e.place.aC=[])∧(e.bn.length:Int)=(iy e.kind).1∧(e.kind=3→1≤e.op∧e.op≤11):=by
 unfold hZ at h;simp only[X7,dQ]at h;obtain⟨⟨⟨⟨⟨⟨h1,d⟩,_⟩,_⟩,b⟩,a⟩,f⟩:=h;refine⟨h1,d,λc=>?_,by simpa using f,λc=>by rw[aa c]at b;simpa using b⟩;have hk:(iy e.kind).2=false:=by
  unfold iy;by_cases e1:e.kind=3
  ·rw[aa e1]
  ·rw[ae e1,bC,bC,bC]
 rw[hk,aai]at a;unfold kA at a;simp only[X7,bG]at a;exact Zo.1 a.2
section
variable{E:BB}(S:BA E.vars E.A E.dG E.P E.R){L:List (List UInt8×Nat)}{G:List Int}{ln:Int}
include S
end
end Rb

namespace Rb
open Go
variable{G:List Int}{x:List UInt8}
mutual
def BC:aw→Nat
 | .mk kind V E cg aV place bc be bw=>(if kind=1 then 1 else 0)+(sq be+sq bw)
def sq:List aw→Nat
 |[]=>0
 |x::r=>BC x+sq r
end
mutual
def sr:aw→Nat
 | .mk kind V E cg aV place bc be bw=>8+(mX place+lM bc)+(lN be+lN bw)
def lN:List aw→Nat
 |[]=>0
 |x::r=>sr x+lN r
end
mutual
def I_:aw→Int
 | .mk kind V E cg aV place bc be bw=>ql bw (ql be V)
def ql:List aw→Int→Int
 |[],l=>l
 |x::r,l=>ql r (I_ x)
end
def su(vars:List U)(L:List (List UInt8×Nat))(ln:Int)(place:aM)(bc:List X)(a:Int):List b8:=jJ ln 1 0 0::(xi vars L ln place a++Bw vars L ln bc (B (a+j8 place)))
def Tq(L:List (List UInt8×Nat))(n:Nat)(kind ln:Int)(E cg:List UInt8)(aV:Int)(place:aM)(a:Int):b8:=
 if kind=1 then jJ ln 4 0 n else if kind=2 then jJ ln 4 0 (kH (-1) L E)
 else if kind=3∨kind=4∨kind=6 then⟨8,0,0,0,place,kind,aV,a,ln⟩
 else if kind=5 then⟨9,0,kH (-1) L E,kH (-1) L cg,place,0,aV,a,ln⟩
 else if kind=7 then⟨10,0,0,0,I5,0,aV,a,ln⟩
 else jJ ln 13 0 0
def Tr(ln l2:Int)(p:Nat)(T:List b8)(F:Nat→List b8):List b8:=jJ ln 12 0 ((p+1+T.length+1:Nat):Int)::(T++(jJ l2 11 0 ((p+1+T.length+1+(F (p+1+T.length+1)).length:Nat):Int)::F (p+1+T.length+1)))
def Ts(ln l2:Int)(p a:Nat)(T:List b8):List b8:=jJ ln 12 0 ((p+1+T.length+1:Nat):Int)::(T++[jJ l2 11 0 (a:Int)])
def Ja(L:List (List UInt8×Nat))(n:Nat)(x:aw):List (List UInt8×Nat):=if x.kind=1 then L++[(x.E,n)]else L
section
variable(vars:List U)
mutual
def BE:aw→Nat→Nat→List (List UInt8×Nat)→Int→List b8
 | .mk kind V E cg aV place bc be bw,base,n,L,a=>
  su vars L V place bc a ++
  (if kind=8 then Tr V (ql be V) (base+(su vars L V place bc a).length) (sv be (base+(su vars L V place bc a).length+1) n L (B (B (a+j8 place)+kB bc 0)))
      (λb=>sv bw b (n+sq be) L (B (B (B (a+j8 place)+kB bc 0)+nW be 0)))
    else if kind=9 then Ts V (ql be V) (base+(su vars L V place bc a).length) (base+1+(xi vars L V place a).length) (sv be (base+(su vars L V place bc a).length+1) n L (B (B (a+j8 place)+kB bc 0)))
    else [Tq L n kind V E cg aV place (B (B (B (a+j8 place)+kB bc 0)+1))])
def sv:List aw→Nat→Nat→List (List UInt8×Nat)→Int→List b8
 |[],base,n,L,a=>[]
 |x::r,base,n,L,a=>BE x base n L a++sv r (base+(BE x base n L a).length) (n+BC x) (Ja L n x) (B (a+AP x 0))
end
end
theorem Jb{x:aw}(h:jl x=true):1≤x.kind∧x.kind≤10∧(¬(3≤x.kind∧x.kind≤6)→x.place.aC=[])∧(x.bc.length:Int)=(eG x.kind).2.2.2.1∧(x.kind≠8→x.bw=[])∧(x.kind≠8→x.kind≠9→x.be=[]):=by
 unfold jl at h;simp only[X7,dQ,X8,bG]at h;obtain⟨⟨⟨⟨⟨⟨⟨h1,d⟩,_⟩,_⟩,a⟩,f⟩,b⟩,c⟩:=h;refine⟨h1,d,λe=>?_,f,λe=>?_,λe g=>?_⟩
 · have:(eG x.kind).2.2.1=false:=by
     unfold eG
     repeat' split
     all_goals first|rfl|(exfalso;omega)
   rw[this]at a;rcases a with a|a
   ·cases a
   · unfold kA at a;simp only[X7,bG]at a;exact Zo.1 a.2
 · have:(eG x.kind).2.2.2.2.2=false:=by
     unfold eG
     repeat' split
     all_goals first|rfl|(exfalso;omega)
   rw[this]at c;rcases c with c|c
   ·cases c
   ·exact Zo.1 c
 · have:(eG x.kind).2.2.2.2.1=false:=by
     unfold eG
     repeat' split
     all_goals first|rfl|(exfalso;omega)
   rw[this]at b;rcases b with b|b
   ·cases b
   ·exact Zo.1 b
theorem LR.take{L:List (List UInt8×Nat)}{aS:List (List UInt8×Int)}(h:LR L aS G)(n:Nat):LR (L.take n) (aS.take n) G:=by
 refine⟨by rw[acy,acy,h.nm],λi p l hp hl=>?_,?_⟩
 · rw [X3]at hp hl;by_cases hi:i<n
   · rw[aa hi]at hp hl;exact h.vl i p l hp hl
   ·rw[ae hi]at hp;cases hp
 · rw[acy];exact acK (List.take_sublist _ _) h.nd
theorem LR.app{L:List (List UInt8×Nat)}{aS:List (List UInt8×Int)}(h:LR L aS G){n:Nat}(hb:∀p∈L,p.2<n)(hn:n<G.length)(d:x∉L.map (·.1))(v:Int):LR (L++[(x,n)]) (aS++[(x,v)]) (G.set n v):=by
 have hlen:aS.length=L.length:=by have:=congrArg acL h.nm;simpa using this
 refine⟨by rw[acA,acA,h.nm];rfl,λi p l hp hl=>?_,?_⟩
 · by_cases hi:i<L.length
   · rw[ZE hi]at hp;rw[ZE (by omega)]at hl;have g:=hb p (aaN hp);rw[Ys,bC];exact h.vl i p l hp hl
   · have f:i=L.length:=by
       have:=(X1.1 hp).1;simp at this;omega
     subst f;rw[ZF (sl _),acG]at hp;rw[ZF (by omega),←hlen,acG]at hl;simp at hp hl;subst hp hl;rw[Ys,aa rfl,aa hn]
 · rw[acA,List.nodup_append];refine⟨h.nd,by simp,λa ha b c e=>?_⟩;simp at c;subst c;exact d (e▸ha)
theorem LR.put{L:List (List UInt8×Nat)}{s:RS}(h:LR L s.aS G)(hi:(L.map (·.2)).Nodup)(c:x∈L.map (·.1))(hb:∀p∈L,p.2<G.length)(v:Int):∃k:Nat,kH (-1) L x=k∧k<G.length∧LR L (s.put x v).aS (G.set k v):=by
 obtain⟨k,i,h1,r,b,d⟩:=h.get c;have hk:k<G.length:=hb (x,k) (aaN b);obtain⟨l,g1,g2,g3,g4⟩:=IU d;refine⟨k,h1,hk,?_⟩;rw[g4 v];show LR L (s.aS.set i (l.1,v)) (G.set k v);have hlen:s.aS.length=L.length:=by have:=congrArg acL h.nm;simpa using this
 refine⟨?_,λj p q hp a=>?_,h.nd⟩
 · rw [List.map_set,←h.nm];apply acF;intro j;rw[Ys];by_cases e:i=j
   · subst e;have:i<s.aS.length:=(X1.1 g1).1;rw[aa rfl,aa (by simpa using this),YT,g1];rfl
   ·rw[ae e]
 · rw [Ys]at a;by_cases e:i=j
   · subst e;rw[aa rfl]at a;split at a
     · cases a;rw[b]at hp;cases hp;rw[Ys,aa rfl,aa hk]
     ·cases a
   · rw [ae e]at a;have f:k≠p.2:=by
      intro g;have m:(L.map (·.2))[i]?=some k:=by rw[YT,b];rfl
      have n:(L.map (·.2))[j]?=some k:=by rw[YT,hp,g];rfl
      have i1:=(X1.1 m)
      have i2:=(X1.1 n)
      obtain⟨l1,e1⟩:=i1;obtain⟨l2,o⟩:=i2;exact e ((List.getElem_inj hi).1 (e1.trans o.symm))
     rw[Ys,ae f];exact h.vl j p q hp a
end Rb

namespace Rb
open Go
section
variable{C:Ctx}(ak:bP C)(hT:Cl (ai C) S.bu){id:Nat}{vars:List U}{L:List (List UInt8)}
include ak hT
end
end Rb

namespace Rb
open Go
theorem Tt{j n m:Nat}(h:n≤m):c9 2 (.row j 0 m 2) none (some (M n)) none=some (.row j 0 n 2):=by simp only[c9,eh];rw[cY];simp only[Zc];rw[aa ⟨Yz _,h,trivial⟩,aa (.inl trivial)];simp
theorem ka.take{H:Z}{id:Nat}{L:List (List UInt8×Int)}{x:I}(h:ka H id L x){n:Nat}(hn:n≤L.length):∃a,c9 2 x none (some (M n)) none=some a∧ka H id (L.take n) a∧a.known=true∧a.cells=[a]∧a.scalar=true∧∀j c d e,a = .row j c d e→∃c' b f,x = .row j c' b f:=by
 rcases h with⟨rfl,rfl⟩|⟨j,cs,m,rfl,g,i,k,o,l⟩
 · have:n=0:=by simpa using hn
   subst this;exact⟨aQ,rfl,.inl ⟨rfl,rfl⟩,rfl,rfl,rfl,λj c d e h=>by cases h⟩
 · have hl:(L.take n).length=n:=by rw[ab3];omega
   refine⟨.row j 0 n 2,Tt hn,.inr ⟨j,cs,m,by rw[hl],g,i,k,by omega,?_⟩,rfl,rfl,rfl,λq c d e h=>?_⟩
   ·rw[hl,←Br (cells:=sf) (sz:=2) (λ_=>rfl),←l,acz,acx (by omega)]
   · simp only[I.row.injEq]at h;exact⟨0,L.length,2,by rw[h.1]⟩
section
variable{C:Ctx}(ak:bP C)(hT:Cl (ai C) S.bu){id:Nat}{vars:List U}{c:Nat}
include ak hT
end
end Rb

namespace Rb
open Go
section
variable{C:Ctx}(ak:bP C)(hT:Cl (ai C) S.bu){id:Nat}{vars:List U}{L:List (List UInt8)}{c:Nat}
include ak hT
end
end Rb

namespace Rb
open Go
theorem mi.le{A:List b8}{pc:Nat}{l:List b8}(h:mi A pc l)(hl:l≠[]):pc+l.length≤A.length:=by have hp:0<l.length:=List.length_pos_iff.2 hl;have:=h (l.length-1) l[l.length-1] (YU _);have:=(X1.1 this).1;omega
theorem St.put{dG:List (Int×Int)}{s:RS}{u:Nat}(h:St dG s u)(x:List UInt8)(v:Int):St dG (s.put x v) u:=by obtain⟨e1,f,a,b,g,c,d,e⟩:=SA s x v;exact⟨by rw[a];exact h.go,by rw[e];exact h.em,by rw[d];exact h.wz,by rw[c];exact h.fz,by rw[b];exact h.an,h.le⟩
section
variable{E:BB}(S:BA E.vars E.A E.dG E.P E.R){c:Nat}
include S
end
end Rb

namespace Rb
open Go
section
variable{C:Ctx}(ak:bP C)(hT:Cl (ai C) S.bu)
include ak hT
end
end Rb

namespace Rb
open Go
variable{H H':Z}{n sz k:Nat}{x:I}{cells:List I}
def bQ:I→Option Nat
 | .row j _ _ _=>some j
 |_=>none
def cP(H:Z)(sz:Nat)(x:I)(n:Nat)(cells:List I):Prop:=cells.length=n*sz∧((∃tk,(tk = .nil∨tk = .full)∧n=0∧x = .aq tk 0 [])∨∃j cs m,x = .row j 0 n sz∧At H j (.row cs)∧cs.length=m*sz∧n≤m∧cs.take (n*sz)=cells)
theorem cP.nil(H:Z)(sz:Nat):cP H sz aQ 0 []:=⟨by simp,.inl ⟨.nil,.inl rfl,rfl,rfl⟩⟩
theorem cP.full(H:Z)(sz:Nat):cP H sz (.aq .full 0 []) 0 []:=⟨by simp,.inl ⟨.full,.inr rfl,rfl,rfl⟩⟩
theorem cP.aI(h:cP H sz x n cells)(k:∀j cs,bQ x=some j→At H j (.row cs)→At H' j (.row cs)):cP H' sz x n cells:=by
 refine⟨h.1,?_⟩;rcases h.2 with h|⟨j,cs,m,rfl,a,b⟩
 ·exact .inl h
 ·exact .inr ⟨j,cs,m,rfl,k j cs rfl a,b⟩
theorem cP.ext(h:cP H sz x n cells)(k:Z.Ext H H'):cP H' sz x n cells:=h.aI λj cs _ h=>h.ext k
theorem cP.set{sz n i:Nat}(h:cP H sz x n cells)(hi:bQ x≠some i)(o:bL):cP (H.set i o) sz x n cells:=h.aI λj cs a h=>h.bZ (λe=>hi (by rw[←e];exact a)) o
theorem cP.lt{sz n j:Nat}(h:cP H sz x n cells)(a:bQ x=some j):j<H.n:=by
 rcases h.2 with⟨tk,_,_,rfl⟩|⟨c,cs,m,rfl,b,d⟩
 ·cases a
 ·cases a;exact b.1
theorem cP.len(h:cP H sz x n cells):bo false x=some (M n):=by
 rcases h.2 with⟨tk,_,rfl,rfl⟩|⟨a,cs,m,rfl,b,c⟩
 ·rfl
 ·rfl
theorem cP.known(h:cP H sz x n cells):x.known=true∧x.cells=[x]∧x.scalar=true:=by
 rcases h.2 with⟨tk,_,rfl,rfl⟩|⟨a,cs,m,rfl,b,c⟩
 ·exact⟨rfl,rfl,rfl⟩
 ·exact⟨rfl,rfl,rfl⟩
theorem cP.addr(h:cP H sz x n cells)(e:k<n):∃j cs,bQ x=some j∧At H j (.row cs)∧aO none sz x (M k)=some (.ptr j (k*sz))∧cs.take (n*sz)=cells∧n*sz≤cs.length:=by
 rcases h.2 with⟨tk,_,rfl,rfl⟩|⟨j,cs,m,rfl,a,b,c,d⟩
 ·omega
 · refine⟨j,cs,rfl,a,?_,d,by rw[b];exact Zg _ c⟩;show(if 0≤(k:Int)∧(k:Int)<(n:Nat)then some (I.ptr j (0+(k:Int).toNat*sz))else none)=_;rw[aa ⟨by omega,by omega⟩,Zc,YO]
theorem cP.get(h:cP H 1 x n cells){v:I}(hv:cells[k]?=some v):∃p,aO none 1 x (M k)=some p∧∀H',Z.Ext H H'→O H' 1 false p=some v:=by
 have hk:k<n:=by have:=(X1.1 hv).1;rw[h.1]at this;omega
 obtain⟨j,cs,h1,a,b,c,d⟩:=h.addr hk;refine⟨_,b,λH' E=>?_⟩;rw[(a.ext E).load];unfold bT;rw[←c,X3,cY]at hv;rw[cY,el,acu];exact hv
theorem cP.cut(h:cP H sz x n cells)(hk:k≤n):∃a,c9 sz x none (some (M k)) none=some a∧cP H sz a k (cells.take (k*sz))∧bQ a=bQ x:=by
 rcases h.2 with⟨tk,ht,rfl,rfl⟩|⟨j,cs,m,rfl,b,c,e,d⟩
 · have:k=0:=by omega
   subst this;refine⟨.aq tk 0 [],by simp[c9,eh],⟨by simp,.inl ⟨tk,ht,rfl,rfl⟩⟩,rfl⟩
 · refine ⟨.row j 0 k sz,?_,⟨?_,.inr ⟨j,cs,m,rfl,b,c,by omega,?_⟩⟩,rfl⟩
   · simp only[c9,eh];rw[cY];simp only[Zc,acw];rw[aa ⟨Yz _,hk,trivial⟩,qM];simp
   · rw[ab3,h.1];exact acx (Zg _ hk)
   ·rw[←d,acz,acx (Zg _ hk)]
theorem cP.iA{l:List Int}(h:cP H 1 x n (l.map (bY))){a b:Nat}(c:a≤b)(hb:b≤n):∃y,c9 1 x (some (M a)) (some (M b)) none=some y∧S5 H y ((l.take b).drop a):=by
 rcases h.2 with⟨tk,ht,rfl,rfl⟩|⟨j,cs,m,rfl,e,g,i,f⟩
 · have:a=0:=by omega
   have:b=0:=by omega
   subst_vars
   refine⟨.aq tk 0 [],by simp[c9,eh],λH' _ k v hv=>by simp at hv⟩
 · by_cases hc:a=0∨a<b
   · refine ⟨.row j (0+a*1) (b-a) 1,?_,λH' E k v hv=>?_⟩
     · simp only[c9,eh];rw[cY,cY];simp only[Zc,acw];rw[aa ⟨c,hb,trivial⟩,aa hc]
     · rw [X4,X3]at hv;split at hv
       · rename_i o;refine⟨.ptr j (0+a*1+k*1),?_,?_⟩
         · show(if 0≤(k:Int)∧(k:Int)<((b-a:Nat):Int)then some (I.ptr j (0+a*1+(k:Int).toNat*1))else none)=_;rw[aa ⟨by omega,by omega⟩,Zc]
         · rw[(e.ext E).load];unfold bT;have d:(l.map (bY))[a+k]?=some (bY v):=by rw[YT,hv];rfl
           rw[←f,X3,cY]at d;rw[cY,el];rw[show 0+a*1+k*1=a+k by omega];exact d
       ·cases hv
   · refine ⟨.aq .dead 0 [],?_,λH' E k v hv=>?_⟩
     · simp only[c9,eh];rw[cY,cY];simp only[Zc,acw];rw[aa ⟨c,hb,trivial⟩,ae hc]
     · have:=(X1.1 hv).1;rw[abS,ab3]at this;omega
theorem BF:∀(news:List I)(o:Nat)(cs:List I),(setCells cs o news).length=cs.length
 |[],o,cs=>rfl
 |v::r,o,cs=>by rw[setCells,BF r,aam]
theorem cP.app{n sz a:Nat}{cells news:List I}(h:cP H sz x n cells)(hz:0<sz)(hn:news.length=sz)(c:news.all I.scalar=true)(hb:(n+1)*a≤140737488355328)(hl:n+1≤9223372036854775807){K:ad}
  (d:∀b H',cP H' sz b (n+1) (cells++news)→H.n≤H'.n→(∀i o,bQ x≠some i→At H i o→At H' i o)→(bQ b=bQ x∨bQ b=some H.n)→K b H'):au (cp H true sz a x (.aq .full 1 news)) K:=by
 have f:fe H sz (.aq .full 1 news)=some (1,news):=by simp[fe,hn]
 have hlen:(cells++news).length=(n+1)*sz:=by rw[abI,h.1,hn,YA,abG]
 rcases h.2 with⟨tk,ht,rfl,rfl⟩|⟨j,cs,m,rfl,g,k,u,p⟩
 · have hc:cells=[]:=Zo.1 (by rw[h.1];simp);subst hc;have e:cp H true sz a (.aq tk 0 []) (.aq .full 1 news)=some (.row H.n 0 (0+1) sz,H.push (.row ([]++news))):=by
    simp only[cp,f,c,not_true_eq_false,bR];rw[el,ae (by simp only[abF];exact⟨by simp,hb,hl⟩)];rcases ht with rfl|rfl<;>rfl
   exact⟨_,_,e,d _ _ ⟨hlen,.inr ⟨H.n,[]++news,1,rfl,At.new H _,by simp[hn],sl _,by rw[abM (by rw[hlen];exact sl _)]⟩⟩ (YH _) (λi o _ h=>h.push _) (.inr rfl)⟩
 · by_cases hc:(n+1)*sz≤cs.length
   · have e:cp H true sz a (.row j 0 n sz) (.aq .full 1 news)=some (.row j 0 (n+1) sz,H.set j (.row (setCells cs (n*sz) news))):=by
       simp only[cp,f,c,not_true_eq_false,bR,g.2];rw[el,ae (by simp only[abF];exact⟨trivial,trivial,hb,hl⟩),aa hc]
     refine⟨_,_,e,d _ _ ⟨hlen,.inr ⟨j,_,m,rfl,g.set _,?_,?_,?_⟩⟩ (sl _) (λi o hi h=>h.bZ (λe=>hi (by rw[e];rfl)) _) (.inl rfl)⟩
     ·rw[BF];exact k
     · rw[k]at hc;exact Nat.le_of_mul_le_mul_right hc hz
     · apply acF;intro q;rw[X3];have s:cells.length=n*sz:=h.1;have v:(n+1)*sz=n*sz+sz:=by rw[YA,abG]
       by_cases r:q<(n+1)*sz
       · rw[aa r,CC news cs _ _ (by rw[hn];omega)];by_cases h1:n*sz≤q∧q<n*sz+news.length
         ·rw[aa h1,ZF (by omega),s]
         ·rw[ae h1,ZE (by omega),←p,X3,cY]
       ·rw[ae r,aah (by rw[hlen];omega)]
   · have t:cs.length=n*sz:=by
       rw[k]at hc ⊢;have:¬n+1≤m:=λz=>hc (Zg _ z);rw[show m=n by omega]
     have e:cp H true sz a (.row j 0 n sz) (.aq .full 1 news)=some (.row H.n 0 (n+1) sz,(H.set j .gone).push (.row (cs++news))):=by simp only[cp,f,c,not_true_eq_false,bR,g.2];rw[el,ae (by simp only[abF];exact⟨trivial,trivial,hb,hl⟩),ae hc,aa t]
     have l:cs=cells:=by rw[←p,abM (by omega)]
     refine⟨_,_,e,d _ _ ⟨hlen,.inr ⟨H.n,cs++news,n+1,rfl,At.new (H.set j .gone) _,by rw[l];exact hlen,sl _,?_⟩⟩ (YH _) (λi o hi h=>(h.bZ (λe=>hi (by rw[e];rfl)) _).push _) (.inr rfl)⟩;rw[abM (by rw[l,hlen];exact sl _),l]
end Rb

namespace Rb
open Go
variable{k:Nat}{x y:Int×Int}{a b:Int}
theorem kd:∀l:List (Int×Int),(l.flatMap u).length=l.length*2
 |[]=>rfl
 |x::r=>by rw[abk,abI,kd r,abJ];show 2+_=_;omega
theorem Jc:∀(l:List (Int×Int)) (k:Nat) (tl:List I) (p:Int×Int),l[k]?=some p→((l.flatMap u++tl).drop (k*2)).take 2=u p
 |[],k,tl,p,h=>by simp at h
 |x::r,0,tl,p,h=>by simp at h;subst h;rfl
 | x::r,k+1,tl,p,h=>by have:=Jc r k tl p (by simpa using h);rw[show(k+1)*2=k*2+2 by omega];exact this
theorem Jd:∀(l:List (Int×Int)) (k:Nat) (tl:List I) (p:Int×Int),k<l.length→setCells (l.flatMap u++tl) (k*2) (u p)=(l.set k p).flatMap u++tl
 |[],k,tl,p,h=>absurd h (Nat.not_lt_zero _)
 |x::r,0,tl,p,h=>rfl
 | x::r,k+1,tl,p,h=>by have:=Jd r k tl p (by simpa using h);rw[show(k+1)*2=k*2+2 by omega];show(I.int .i64 x.1 :: .int .i64 x.2::setCells (r.flatMap u++tl) (k*2) (u p))=_;rw[this];rfl
theorem BG(a b:Int×Int)(c:Bool):km c [.n,.n] (.agg (u a)) (.agg (u b))=some (.bool (if c then !(decide (a=b))else decide (a=b))):=by
 have:((a.1==b.1)&&(b.2==b.2))=((a.1==b.1)&&(b.2==b.2)):=rfl;have h:((a.1==b.1)&&(a.2==b.2))=decide (a=b):=by rw[aal];simp only[X7,bG,dQ];exact⟨λh=>Prod.ext h.1 h.2,λh=>by rw[h];exact⟨rfl,rfl⟩⟩
 rw[←h];cases c<;>simp[km,dA,u]
section
variable{H:Z}{id:Nat}{l:List (Int×Int)}{tl:List I}
theorem sx{o n k:Nat}(h:k<n):aO none 2 (.row id o n 2) (.int .i64 k)=some (.ptr id (o+k*2)):=by show(if 0≤(k:Int)∧(k:Int)<(n:Nat)then some (I.ptr id (o+(k:Int).toNat*2))else none)=_;rw[aa ⟨by omega,by omega⟩,Zc]
theorem sy(h:At H id (.row (l.flatMap u++tl))){p:Int×Int}(hp:l[k]?=some p):O H 2 true (.ptr id (k*2))=some (.agg (u p)):=by have:=(X1.1 hp).1;rw[h.load];unfold bT;rw[aa (by rw[abI,kd];omega),aa rfl,Jc l k tl p hp]
theorem Tu(h:At H id (.row (l.flatMap u++tl)))(a:k<l.length)(p:Int×Int):Y H 2 (.ptr id (k*2)) (.agg (u p))=some (H.set id (.row ((l.set k p).flatMap u++tl))):=by rw[h.store,aa ⟨rfl,rfl,rfl,by rw[abI,kd];omega⟩];show some (H.set id (.row (setCells _ (k*2) (u p))))=_;rw[Jd l k tl p a]
end
theorem BH(x:Int×Int):∀r:List (Int×Int),∃t,cw (x::r)=x::t
 |[]=>⟨[],by rw[cw]⟩
 | y::r=>by
  rw[cw];by_cases h:x=y
  ·rw[aa h,h];exact BH y r
  ·rw[ae h];exact⟨_,rfl⟩
theorem Tv{r:List (Int×Int)}(h:x=y):(cw (x::y::r)).tail=(cw (y::r)).tail:=by rw[cw,aa h]
theorem Tw{r:List (Int×Int)}(h:¬x=y):(cw (x::y::r)).tail=y::(cw (y::r)).tail:=by rw[cw,ae h,List.tail_cons];obtain⟨t,e⟩:=BH y r;rw[e];rfl
theorem Je{l:List (Int×Int)}{j:Nat}{a b:Int×Int}(ha:l[j]?=some a)(hb:l[j+1]?=some b):l.drop j=a::b::l.drop (j+2):=by rw[drop_cons ha,drop_cons hb]
section
variable{C:Ctx}(ak:bP C)(hT:Cl (ai C) S.bu){H:Z}{Q:ad}
include ak hT
theorem Jf(hQ:∀c:Int,(a<b→c = -1)→(b<a→c=1)→(a=b→c=0)→Q (.int .i64 c) H):ai C 92 [.int .i64 a,.int .i64 b] H Q:=by
 have nan:∀(n:Int)(R:ad),R (.bool false) H→ai C 136 [.int .i64 n] H R:=λn R f=>S.PU hT (by unfold S.f136;simp only[dZ,D];rw[show(n != n)=false by simp];exact f)
 refine S.Ps hT ?_;unfold S.f92;refine nan _ _ (nan _ _ ?_);simp only[aB,ZV,bR,bD,eu,D];apply aF<;>intro e
 · have:a<b:=by simpa using e
   exact hQ _ (λ_=>rfl) (λ_=>by omega) (λ_=>by omega)
 · have e:¬a<b:=by simpa using e
   apply aF<;>intro d
   · have:a>b:=by simpa using d
     exact hQ _ (λ_=>by omega) (λ_=>rfl) (λ_=>by omega)
   · have:¬a>b:=by simpa using d
     exact hQ _ (λ_=>by omega) (λ_=>by omega) (λ_=>rfl)
theorem Tx(hQ:Q (.int .i64 (if a≠0 then a else b)) H):ai C 91 [.aq .full 2 [.int .i64 a,.int .i64 b]] H Q:=by
 refine S.Pr hT ?_;unfold S.f91;have e0:aO none 1 (.aq .full 2 [.int .i64 a,.int .i64 b]) (.int .i64 0)=some (.af [.int .i64 a,.int .i64 b]):=rfl;have e1:aO none 1 (.aq .full 2 [.int .i64 a,.int .i64 b]) (.int .i64 1)=some (.af [.int .i64 b]):=rfl;have l0:O H 1 false (.af [.int .i64 a,.int .i64 b])=some (.int .i64 a):=rfl;have l1:O H 1 false (.af [.int .i64 b])=some (.int .i64 b):=rfl;simp only[show bo false (.aq .full 2 [.int .i64 a,.int .i64 b])=some (.int .i64 2)from rfl,D];refine aA.step ?_;simp only[S.va,aE,bD,D,aB];rw[kE,e0];simp only[D,l0,dZ,aB];by_cases ha:a=0
 · rw[ae (by simp[ha])];rw[ae (by simpa using ha)]at hQ;simp only[b4,D];rw[show Zb .i64 ((0:Int)+1)=1 from rfl];refine aA.step ?_;simp only[S.va,aE,bD,D,aB];rw[kE,e1];simp only[D,l1,dZ,aB];refine aF (λ_=>hQ) (λe=>?_);have hb:b=0:=by simpa using e
   simp only[b4,D];rw[show Zb .i64 ((1:Int)+1)=2 from rfl];refine aA.step ?_;simp only[S.va,aE,bD,D,aB];rw[el];rw[hb]at hQ;exact hQ
 · rw[aa (by simp[ha])];rw[aa ha]at hQ;exact hQ
theorem Ty(hQ:Q (.int .i64 (if x.1<y.1 then -1 else if x.1>y.1 then 1 else if x.2<y.2 then -1 else if x.2>y.2 then 1 else 0)) H):ai C 90 [.agg (u x),.agg (u y)] H Q:=by
 refine S.Pq hT ?_;unfold S.f90;have a:∀(p:Int×Int)(H:Z),aK H false 2 (.agg (u p))=some (.af (u p),H):=λ_ _=>rfl;have f0:∀p:Int×Int,W 0 (.af (u p))=some (.af (u p)):=λ_=>rfl;have f1:∀p:Int×Int,W 1 (.af (u p))=some (.af [.int .i64 p.2]):=λ_=>rfl;have l0:∀(p:Int×Int)(H:Z),O H 1 false (.af (u p))=some (.int .i64 p.1):=λ_ _=>rfl;have l1:∀(p:Int×Int)(H:Z),O H 1 false (.af [.int .i64 p.2])=some (.int .i64 p.2):=λ_ _=>rfl;simp only[a,aP,f0,f1,l0,l1,D];refine Jf ak hT λc c1 c2 c3=>?_;refine⟨trivial,trivial,?_⟩;refine Jf ak hT λd d1 d2 d3=>?_;rw[show dk H false 1 2 [.int .i64 0] [(0,1,.int .i64 c),(1,1,.int .i64 d)]=some (.aq .full 2 [.int .i64 c,.int .i64 d],H)from rfl];simp only[aP];refine Tx ak hT ?_;have:(if c≠0 then c else d)=(if x.1<y.1 then -1 else if x.1>y.1 then 1 else if x.2<y.2 then -1 else if x.2>y.2 then 1 else 0):=by
  rcases acM x.1 y.1 with h|h|h
  ·rw[c1 h,kE,aa h]
  · rw[c3 h,el,bC,bC];rcases acM x.2 y.2 with k|k|k
    ·rw[d1 k,aa k]
    ·rw[d3 k,bC,bC]
    ·rw[d2 k,bC,aa k]
  ·rw[c2 h,kE,bC,aa h]
 rw[this];exact hQ
end
end Rb

namespace Rb
open Go
def jo(id:Nat)(H H':Z):Prop:=H'.n=H.n∧∀i o,i≠id→At H i o→At H' i o
theorem jo.refl(id:Nat)(H:Z):jo id H H:=⟨rfl,λ_ _ _ h=>h⟩
theorem jo.trans{id:Nat}{a b c:Z}(h:jo id a b)(k:jo id b c):jo id a c:=⟨k.1.trans h.1,λi o hi d=>k.2 i o hi (h.2 i o hi d)⟩
theorem jo.set(id:Nat)(H:Z)(o:bL):jo id H (H.set id o):=⟨rfl,λi x hi a=>a.bZ hi o⟩
theorem Jg:∀(b a c:List I)(o:Nat)(d:List I),a.length=o→d.length=b.length→setCells (a++(d++c)) o b=a++(b++c)
 | [],a,c,o,d,ha,f=>by have:d=[]:=acN f;rw[this];rfl
 | v :: b,a,c,o,d,ha,f=>by
  cases d with
  |nil=>simp at f
  | cons w d=>
   rw[setCells];have e:(a++(w::d++c)).set o v=(a++[v])++(d++c):=by rw[List.set_append_right _ _ (by omega),ha,acG];simp
   rw[e,Jg b (a++[v]) c (o+1) d (by simp[ha]) (by simpa using f)];simp
theorem Jh:∀n:Nat,(XY n [I.int .i64 0,I.int .i64 0]).flatten=(XY n ((0,0):Int×Int)).flatMap u
 |0=>rfl
 |n+1=>by rw[Y6,List.flatten_cons,Jh n,Y6,abk];rfl
section
variable{C:Ctx}(ak:bP C)(hT:Cl (ai C) S.bu)
include ak hT
theorem Tz{H:Z}{Q:ad}{id:Nat}{l:List (Int×Int)}{tl:List I}(hn:l.length≤1000000000)(h:At H id (.row (l.flatMap u++tl)))
  (hQ:∀(a:List (Int×Int)) H',jo id H H'→a.length=l.length→a.take (cw l).length=cw l→(cw l).length≤l.length→At H' id (.row (a.flatMap u++tl))→Q (.row id 0 (cw l).length 2) H') :
  ai C 93 [.row id 0 l.length 2] H Q:=by
 refine S.G7 hT ?_;unfold S.f93;have hlen:∀(H:Z)(o n:Nat),bo false (.row id o n 2)=some (.int .i64 n):=λ_ _ _=>rfl;have whole:cw l=l→Q (.row id 0 l.length 2) H:=λe=>by have:=hQ l H (jo.refl _ _) rfl (by rw[e];exact abA) (by rw[e];exact sl _) h;rw[e]at this;exact this
 simp only[hlen H,D,bD,aB];refine aF (λe=>whole ?_) (λe=>?_)
 · have:l.length<2:=by have:(l.length:Int)<2:=(by simpa using e);omega
   match l,this with
   |[],_=>rw[cw]
   |[x],_=>rw[cw]
 have O:2≤l.length:=by have:¬(l.length:Int)<2:=(by simpa using e);omega
 have inner:∀(c:Nat),1≤c→c<l.length→∀(m k2 k:Nat)(a:List (Int×Int)) (H1:Z),l.length-c-k2=m→1≤k2→c+k2≤l.length→c≤k→k≤c+k2-1→jo id H H1→a.length=l.length→(∀i,c+k2-1≤i→a[i]?=l[i]?)→cw l=a.take k++(cw (l.drop (c+k2-1))).tail→At H1 id (.row (a.flatMap u++tl)) →
   aA (S.vc (ai C) (.row id 0 l.length 2) (.row id (c*2) (l.length-c) 2) Q) ([.int .i64 k,.int .i64 k2],H1):=by
  intro c P R m;induction m with
  | zero=>
   intro k2 k a H1 hm h1 hle hk G v q r hc p;refine aA.step ?_;simp only[S.vc,aE,cW,hlen H,D,bD,aB,aR];rw[ee];have f:(cw (l.drop (c+k2-1))).tail=[]:=by
    have w:c+k2-1<l.length:=by omega
    rw[drop_cons (YU w),acO (by omega),cw];rfl
   rw[f,abQ]at hc;have A:(cw l).length=k:=by rw[hc,ab3];omega
   unfold S.Fy;simp only[aE];have s1:c9 2 (.row id 0 l.length 2) (some (.int .i64 k)) none none=some (.row id (k*2) (l.length-k) 2):=by simp only[c9,eh,aa (show(0:Int)≤(k:Int) by omega),Zc];rw[aa ⟨by omega,sl _,trivial⟩,aa (.inr (by omega)),YO]
   have s2:c9 2 (.row id 0 l.length 2) none (some (.int .i64 k)) none=some (.row id 0 k 2):=by simp only[c9,eh,aa (show(0:Int)≤(k:Int) by omega),Zc];rw[aa ⟨Yz _,by omega,trivial⟩,aa (.inl trivial),abv,aaW]
   rw[s1,s2];simp only[D];have J:a.flatMap u++tl=(a.take k).flatMap u++((a.drop k).flatMap u++tl):=by rw[←acI,←acH,acP]
   have K:ei H1 (.clear 2 [.int .i64 0,.int .i64 0]) [.row id (k*2) (l.length-k) 2]=some (.ar [],H1.set id (.row ((a.take k++XY (l.length-k) (0,0)).flatMap u++tl))):=by simp only[ei];rw[bC,p.2];dsimp only;rw[aa ⟨rfl,rfl,by rw[abI,kd,q];omega⟩,Jh,J,Jg _ _ tl _ ((a.drop k).flatMap u) (by rw[kd,ab3];omega) (by rw[kd,kd,abS,acQ,q]),←acI,←acH]
   rw[K];simp only[aP];have:=hQ (a.take k++XY (l.length-k) (0,0)) _ (v.trans (jo.set id H1 _)) (by rw[abI,ab3,acQ];omega) (by rw[A,abL (by rw[ab3];omega),acz,Nat.min_self];exact hc.symm) (by omega) (p.set _);rw[A]at this;exact this
  | succ m y=>
   intro k2 k a H1 hm h1 hle hk G v q r hc p;have L:c+k2<l.length:=by omega
   obtain⟨b,hb⟩:∃b,l[c+k2-1]?=some b:=⟨_,YU (by omega)⟩
   obtain⟨d,f⟩:∃d,l[c+k2]?=some d:=⟨_,YU L⟩
   have M:a[c+k2-1]?=some b:=(r _ (sl _)).trans hb;have B:a[c+k2]?=some d:=(r _ (by omega)).trans f;have e1:aO none 2 (.row id (c*2) (l.length-c) 2) (.int .i64 k2)=some (.ptr id ((c+k2)*2)):=by rw[sx (by omega)];congr 2;omega
   have z:aO none 2 (.row id (c*2) (l.length-c) 2) (.int .i64 ((k2:Int)-1))=some (.ptr id ((c+k2-1)*2)):=by rw[show((k2:Int)-1)=((k2-1:Nat):Int) by omega,sx (by omega)];congr 2;omega
   have N:aO none 2 (.row id 0 l.length 2) (.int .i64 k)=some (.ptr id (k*2)):=by rw[sx (by omega),YO]
   have s:l.drop (c+k2-1)=b::d::l.drop (c+k2+1):=by have:=Je (l:=l) (j:=c+k2-1) hb (by rw[show c+k2-1+1=c+k2 by omega];exact f);rw[this];congr 3;omega
   have E:l.drop (c+(k2+1)-1)=d::l.drop (c+k2+1):=by rw[show c+(k2+1)-1=c+k2 by omega];exact drop_cons f
   refine aA.step ?_;simp only[S.vc,aE,cW,hlen H,D,bD,aB,aR];rw[dU,e1];simp only[D,sy p B,fZ];rw[wrap_i64 (n:=(k2:Int)-1) (by omega) (by omega),z];simp only[D,sy p M,BG,aB,aY];by_cases g:d=b
   · rw[ae (by simp[g])];unfold S.vb;simp only[aE,cW,b4,D];rw[wrap_i64 (n:=(k2:Int)+1) (by omega) (by omega),show((k2:Int)+1)=((k2+1:Nat):Int) by simp];refine y (k2+1) k a H1 (by omega) (by omega) (by omega) hk (by omega) v q (λi hi=>r i (by omega)) ?_ p;rw[hc,s,E,Tv g.symm]
   · rw [aa (by simp[g])];simp only[D,sy p B,N,Tu p (show k<a.length by omega),b4];rw[wrap_i64 (n:=(k:Int)+1) (by omega) (by omega),iT k];unfold S.vb;simp only[aE,cW,b4,D];rw[wrap_i64 (n:=(k2:Int)+1) (by omega) (by omega),show((k2:Int)+1)=((k2+1:Nat):Int) by simp];refine y (k2+1) (k+1) (a.set k d) _ (by omega) (by omega) (by omega) (by omega) (by omega) (v.trans (jo.set id H1 _)) (by rw[aam];exact q) (λi hi=>?_) ?_ (p.set _)
     ·rw[List.getElem?_set_ne (by omega)];exact r i (by omega)
     · rw [hc,s,E,Tw (λe=>g e.symm)];have:(a.set k d).take (k+1)=a.take k++[d]:=by
        rw[abR,acv (sl k),YW (by omega)];rfl
       rw[this,acI];rfl
 have outer:∀(m k:Nat),l.length-k=m→1≤k→k≤l.length→cw l=l.take (k-1)++cw (l.drop (k-1))→aA (S.vd (ai C) (.row id 0 l.length 2) Q) ([.int .i64 k],H):=by
  intro m;induction m with
  | zero=>
   intro k hm h1 hk hc;refine aA.step ?_;simp only[S.vd,aE,hlen H,D,bD,aB];rw[ee];refine whole ?_;have w:k-1<l.length:=by omega
   rw[drop_cons (YU w),acO (by omega),cw]at hc;rw[hc];have:=acP (k-1) l;rw[drop_cons (YU w),acO (by omega)]at this;exact this
  | succ m y=>
   intro k hm h1 hk hc;obtain⟨b,hb⟩:∃b,l[k-1]?=some b:=⟨_,YU (by omega)⟩
   obtain⟨d,f⟩:∃d,l[k]?=some d:=⟨_,YU (by omega)⟩
   have e1:aO none 2 (.row id 0 l.length 2) (.int .i64 k)=some (.ptr id (k*2)):=by rw[sx (by omega),YO]
   have z:aO none 2 (.row id 0 l.length 2) (.int .i64 ((k:Int)-1))=some (.ptr id ((k-1)*2)):=by rw[show((k:Int)-1)=((k-1:Nat):Int) by omega,sx (by omega),YO]
   have s:l.drop (k-1)=b::d::l.drop (k+1):=by have:=Je (l:=l) (j:=k-1) hb (by rw[show k-1+1=k by omega];exact f);rw[this];congr 3;omega
   have F:l.take k=l.take (k-1)++[b]:=by
    obtain⟨j,rfl⟩:∃j,k=j+1:=⟨k-1,by omega⟩
    rw[abR];show l.take j++(l[j]?).toList=_;rw[show l[j]?=some b from hb];rfl
   refine aA.step ?_;simp only[S.vd,aE,hlen H,D,bD,aB];rw[dU,e1];simp only[D,sy h f,fZ];rw[wrap_i64 (n:=(k:Int)-1) (by omega) (by omega),z];simp only[D,sy h hb,BG,aB,ZV,bR];by_cases g:d=b
   · rw [aa (by simp[g])];have s1:c9 2 (.row id 0 l.length 2) (some (.int .i64 k)) none none=some (.row id (k*2) (l.length-k) 2):=by
      simp only[c9,eh,aa (show(0:Int)≤(k:Int) by omega),Zc];rw[aa ⟨by omega,sl _,trivial⟩,aa (.inr (by omega)),YO]
     rw[s1];simp only[D];refine inner k h1 (by omega) _ 1 k l H rfl (sl _) (by omega) (sl _) (by omega) (jo.refl _ _) rfl (λ_ _=>rfl) ?_ h;rw[hc,s,show k+1-1=k by omega,drop_cons f,F,cw,aa g.symm,acI];obtain⟨t,et⟩:=BH d (l.drop (k+1));rw[et,g];rfl
   · rw[ae (by simp[g])];simp only[b4,D];rw[wrap_i64 (n:=(k:Int)+1) (by omega) (by omega),iT k];refine y (k+1) (by omega) (by omega) (by omega) ?_;rw[hc,s,show k+1-1=k by omega,drop_cons f,F,cw,ae (λe=>g e.symm),acI];rfl
 exact outer _ 1 rfl (sl _) (by omega) (by simp)
end
end Rb

namespace Rb
open Go
def fF(kw:List UInt8→Bool):List (List UInt8)→List U→Int
 |_,[]=>0
 |seen,v::r=>if fg v.E=false∨kw v.E=true then 6 else if seen.contains v.E=true then 7 else if(aZ v.type).2≠0 then(aZ v.type).2 else fF kw (seen++[v.E]) r
theorem Ji(kw:List UInt8→Bool)(K:Int)(g:K=70000):∀(l:List U)(b:List (List UInt8)) (a:Int) (n:Nat),0≤a→a≤n*K→n+l.length≤32→lD kw b a l=if fF kw b l≠0 then fF kw b l else if gM a l>65536 then 9 else 0
 | [],b,a,n,i,h1,j=>by
  have e:gM a []=a:=by rw[gM]
  have f:fF kw b []=0:=by rw[fF]
  by_cases h:a>65536
  ·rw[lD,aa h,f,ae (λz=>z rfl),aa (by rw[e];exact h)]
  ·rw[lD,ae h,f,ae (λz=>z rfl),ae (by rw[e];exact h)]
 | v :: r,b,a,n,i,h1,j=>by
  rw[lD,fF,gM];by_cases e1:fg v.E=false∨kw v.E=true
  ·rw[aa e1,aa e1,kE]
  · rw [ae e1,ae e1];by_cases d:b.contains v.E=true
    ·rw[aa d,aa d,kE]
    · rw [ae d,ae d];by_cases c:(aZ v.type).2≠0
      ·rw[aa c,aa c,aa c]
      · rw [ae c,ae c];have hz:(aZ v.type).2=0:=by simpa using c
        obtain⟨b1,b2,b3,k⟩:=xe hz;rw[abJ]at j;have m:a≤n*70000:=by rw[←g];exact h1
        have hu:=hj (n:=a) (step:=(aZ v.type).1.2) (by omega);have hw:B (ca a (aZ v.type).1.2+(aZ v.type).1.1)=e2 a v+(aZ v.type).1.1:=by rw[mR i (by omega) (by omega) (by omega)];exact bI
        rw[hw];unfold e2;exact Ji kw K g r _ _ (n+1) (by omega) (by subst g;push_cast;omega) (by omega)
theorem Jj(kw:List UInt8→Bool):∀{l:List U}{seen:List (List UInt8)},fF kw seen l=0→∀v∈l,(aZ v.type).2=0
 | v :: r,seen,h,w,hw=>by
  rw[fF]at h;split at h
  ·cases h
  · split at h
    ·cases h
    · split at h
      ·rename_i e;exact absurd h e
      · rename_i e;rcases aan.1 hw with rfl|hw
        ·simpa using e
        ·exact Jj kw h w hw
end Rb

namespace Rb
open Go
section
variable{C:Ctx}(ak:bP C)(hT:Cl (ai C) S.bu)
include ak hT
end
end Rb

namespace Rb
open Go
section
variable{C:Ctx}(ak:bP C)(hT:Cl (ai C) S.bu)
include ak hT
end
end Rb

namespace Rb
open Go
def Jk(vars:List U)(s:ba):List I:=[av U.cells vars,M s.lets,M s.V,M s.lB,M s.bH]
section
variable{C:Ctx}(ak:bP C)(hT:Cl (ai C) S.bu)
include ak hT
end
end Rb

namespace Rb
open Go
section
variable{Φ:aj}{H:Z}{Q:ad}
end
section
variable{C:Ctx}(ak:bP C)(hT:Cl (ai C) S.bu)
include ak hT
end
end Rb

namespace Rb
open Go
section
variable{C:Ctx}(ak:bP C)(hT:Cl (ai C) S.bu){id:Nat}{vars:List U}
include ak hT
end
end Rb

namespace Rb
open Go
section
variable{Φ:aj}{k o:Int}{H:Z}{Q:ad}
end
section
variable{C:Ctx}(hT:Cl (ai C) S.bu)
include hT
end
end Rb

namespace Rb
open Go
section
variable{C:Ctx}(ak:bP C)(hT:Cl (ai C) S.bu){id:Nat}{vars:List U}
include ak hT
end
end Rb

namespace Rb
open Go
def Jl:List UInt8:=[118,97,114,32,116,104,114,101,97,100,32,115,116,114,117,99,116,32,117,110,105,111,110,32,112,97,99,107,101,100,32,117,56,32,117,49,54,32,117,51,50,32,117,54,52,32,97,56,32,97,49,54,32,97,51,50,32,97,54,52,32,97,49,50,56,32,108,101,116,32,115,101,116,32,119,114,105,116,101,32,115,116,111,114,101,32,108,111,97,100,50,32,115,116,111,114,101,50,32,102,101,110,99,101,32,105,102,32,101,108,115,101,32,119,104,105,108,101,32,112,114,105,110,116,32,114,101,97,100,32,108,111,97,100,32,97,100,100,32,115,119,97,112,32,99,97,115,32,114,108,120,32,97,99,113,32,114,101,108,32,115,99]
def qm:List (List UInt8):=[[118,97,114],[116,104,114,101,97,100],[115,116,114,117,99,116],[117,110,105,111,110],[112,97,99,107,101,100],[117,56],[117,49,54],[117,51,50],[117,54,52],[97,56],[97,49,54],[97,51,50],[97,54,52],[97,49,50,56],[108,101,116],[115,101,116],[119,114,105,116,101],[115,116,111,114,101],[108,111,97,100,50],[115,116,111,114,101,50],[102,101,110,99,101],[105,102],[101,108,115,101],[119,104,105,108,101],[112,114,105,110,116],[114,101,97,100],[108,111,97,100],[97,100,100],[115,119,97,112],[99,97,115],[114,108,120],[97,99,113],[114,101,108],[115,99]]
def eD(s:List UInt8):Bool:=qm.any λx=>s==x
section
variable{C:Ctx}(ak:bP C)(hT:Cl (ai C) S.bu)
include ak hT
theorem TA(hF:∀(H:Z)(Q:ad),Q (.aq .dead 34 (qm.map .str)) H→ai C 139 [.str Jl] H Q)(s:List UInt8):bE (ai C) 96 [.str s] (.bool (eD s)):=by
 intro H Q hQ;refine S.Pu hT ?_;unfold S.f96;refine hF _ _ ?_;refine A5 hT (xs:=qm) rfl (λi x a=>?_) (by decide) hQ;have b:=(X1.1 a).1;refine⟨.af ((qm.map I.str).drop (i*1)),?_,?_⟩
 · simp only[aO];have hl:qm.length=34:=rfl;rw[aa ⟨by omega,by omega⟩];simp
 · show bT _ 0 1 false=_;unfold bT;rw[aa (by rw[abS,List.length_map];omega)];simp[a]
end
end Rb

namespace Rb
open Go
section
variable{C:Ctx}(ak:bP C)(hT:Cl (ai C) S.bu)
include ak hT
end
end Rb

namespace Rb
open Go
def sA(H:Z)(id:Nat)(vars:List U)(s:ba):Prop:=∃s',At H id (.row (Jk vars s'))∧s'.bH=s.bH∧s'.lB=s.lB∧(s.bH=0→s'.lets=s.lets)
theorem sA.of{H:Z}{id:Nat}{vars:List U}{s:ba}(h:At H id (.row (Jk vars s))):sA H id vars s:=⟨s,h,rfl,rfl,λ_=>rfl⟩
theorem sA.aI{H:Z}{id:Nat}{vars:List U}{s t:ba}(h:sA H id vars s)(f:t.bH=s.bH)(g:t.lB=s.lB)(i:s.bH=0→t.lets=s.lets):sA H id vars t:=by obtain⟨s',a,b,c,d⟩:=h;exact⟨s',a,b.trans f.symm,c.trans g.symm,λe=>(d (f▸e)).trans (i (f▸e)).symm⟩
section
variable(vars:List U)
end
section
variable{C:Ctx}(ak:bP C)(hT:Cl (ai C) S.bu){id:Nat}{vars:List U}
include ak hT
end
end Rb

namespace Rb
open Go
section
variable{C:Ctx}(ak:bP C)(hT:Cl (ai C) S.bu)
include ak hT
end
end Rb

namespace Rb
open Go
variable{w w' R S l0 l1 m:Nat}
structure dv where
 kind:Int
 dst:Int
 sB:Int
 a:Int
 b:Int
 c:Int
 n:Int
 op:Int
 size:Int
 aV:Int
 en:Int
 site:Int
 V:Int
def dv.cells(o:dv):List I:=[.int .i64 o.kind,.int .i64 o.dst,.int .i64 o.sB,.int .i64 o.a,.int .i64 o.b,.int .i64 o.c,.int .u64 o.n,.int .i64 o.op,.int .i64 o.size,.int .i64 o.aV,.int .i64 o.en,.int .i64 o.site,.int .i64 o.V]
theorem dv.len(o:dv):o.cells.length=13:=rfl
theorem dv.scalar(o:dv):o.cells.all I.scalar=true:=rfl
def BI(k:Int):dv:=⟨k,-1,-1,-1,-1,-1,0,0,0,0,0,0,0⟩
structure LD where
 A:List dv
 bj:Nat
 labels:Nat
 sn:Nat
 sc:List I
 V:Int
 L:List (List UInt8×Nat)
def jq(p:List UInt8×Nat):List I:=[.str p.1,.int .i64 (p.2:Int)]
def LD.add(c:LD)(o:dv):LD:={c with A:=c.A++[{o with V:=c.V}]}
def dh(R:Nat)(r:Int):Prop:= -1≤r∧r<(R:Nat)
theorem dh.mono{r:Int}(h:dh R r)(k:R≤S):dh S r:=⟨h.1,by have:=h.2;omega⟩
theorem dh.none(R:Nat):dh R (-1):=⟨ach _,by omega⟩
structure iD(R S:Nat)(o:dv):Prop where
 k1:1≤o.kind
 k2:o.kind≤18
 dst:dh R o.dst
 sB:dh R o.sB
 a:dh R o.a
 b:dh R o.b
 c:dh R o.c
 site:4≤o.kind→o.kind≤13→1≤o.site∧o.site≤(S:Nat)
 size:4≤o.kind→o.kind≤7→o.size=1∨o.size=2∨o.size=4∨o.size=8
theorem iD.mono{R S e S':Nat}{o:dv}(h:iD R S o)(d:R≤e)(hS:S≤S'):iD e S' o:=⟨h.k1,h.k2,h.dst.mono d,h.sB.mono d,h.a.mono d,h.b.mono d,h.c.mono d,λa b=>by have:=h.site a b;omega,h.size⟩
theorem iD.V{o:dv}(h:iD R S o)(l:Int):iD R S {o with V:=l}:=⟨h.k1,h.k2,h.dst,h.sB,h.a,h.b,h.c,h.site,h.size⟩
def mj(o:dv):Prop:=¬(14≤o.kind∧o.kind≤16)
def iE(t:Int)(l:List dv):Nat:=(l.filter λo=>o.kind==14&&o.en==t).length
theorem BJ(t:Int)(a b:List dv):iE t (a++b)=iE t a+iE t b:=by simp[iE]
structure fw(l0 l1:Nat)(new:List dv):Prop where
 le:l0≤l1
 en:∀o∈new,14≤o.kind→o.kind≤16→(l0:Int)<o.en∧o.en≤(l1:Int)
 one:∀t:Int,(l0:Int)<t→t≤(l1:Int)→iE t new=1
theorem oj{a:List dv}(h:fw l0 l1 a){t:Int}(ht:t≤l0∨(l1:Int)<t):iE t a=0:=by unfold iE;rw[Zo,List.filter_eq_nil_iff];intro o b c;simp only[X7,bG]at c;have:=h.en o b (by omega) (by omega);omega
theorem fw.nil(l:Nat):fw l l []:=⟨sl _,λo a=>(by cases a),λt h1 b=>by omega⟩
theorem fw.trans{l0 l1 l2:Nat}{a b:List dv}(h:fw l0 l1 a)(k:fw l1 l2 b):fw l0 l2 (a++b):=by
 have h1:=h.le;have k1:=k.le;refine⟨by omega,λo c qn iY=>?_,λt t0 t1=>?_⟩
 · rcases aag.1 c with c|c
   ·have:=h.en o c qn iY;omega
   ·have:=k.en o c qn iY;omega
 · rw[BJ];by_cases hm:t≤l1
   ·rw[h.one t t0 hm,oj k (.inl hm)]
   ·rw[oj h (.inr (by omega)),k.one t (by omega) t1]
theorem fw.none{l:Nat}{new:List dv}(h:∀o∈new,mj o):fw l l new:=⟨sl _,λo c a b=>absurd ⟨a,b⟩ (h o c),λt h1 d=>by omega⟩
structure BD(c:LD)(w:Nat):Prop where
 A:c.A.length+w≤1000000000000
 r:c.bj+w≤1000000000000
 l:c.labels+w≤1000000000000
 s:c.sn+w≤1000000000000
 L:c.L.length+w≤1000000000000
structure bq where
 kind:Int
 aV:Int
 V:Int
 place:aM
def bq.cells(a:bq):List I:= .int .i64 a.kind :: .int .i64 a.aV :: .int .i64 a.V::(if a.kind=7 then [.str [],.aq .nil 0 []]else a.place.cells)
structure GE(c c':LD)(w:Nat)(k:List bq):Prop where
 new:∃new,c'.A=c.A++new∧new.length≤w∧(∀o∈new,iD c'.bj c'.sn o∧mj o)
 r0:c.bj≤c'.bj
 r1:c'.bj≤c.bj+w
 s1:c'.sn=c.sn+k.length
 sc:c'.sc=c.sc++k.flatMap bq.cells
 sw:k.length≤w
 kI:c'.labels=c.labels
 L:c'.L=c.L
 V:c'.V=c.V
theorem GE.s0{c c':LD}{k:List bq}(h:GE c c' w k):c.sn≤c'.sn:=by rw[h.s1];omega
theorem GE.s2{c c':LD}{k:List bq}(h:GE c c' w k):c'.sn≤c.sn+w:=by have:=h.sw;rw[h.s1];omega
theorem GE.refl(c:LD):GE c c 0 []:=⟨⟨[],by simp,sl _,λo a=>by cases a⟩,sl _,sl _,rfl,(abQ _).symm,sl _,rfl,rfl,rfl⟩
theorem GE.trans{c b d:LD}{k k':List bq}(h:GE c b w k)(g:GE b d w' k'):GE c d (w+w') (k++k'):=by
 obtain⟨n1,a1,b1,d1⟩:=h.new;obtain⟨n2,a2,b2,d2⟩:=g.new;have h1:=h.r0;have e:=h.r1;have f:=h.s0;have i:=h.s1;have j:=h.sw;have g1:=g.r0;have g2:=g.r1;have g3:=g.s0;have g4:=g.s1;have g5:=g.sw;refine⟨⟨n1++n2,by rw[a2,a1,acI],by rw[abI];omega,λo a=>?_⟩,by omega,by omega,by rw[abI];omega,by rw[g.sc,h.sc,acH,acI],by rw[abI];omega,g.kI.trans h.kI,g.L.trans h.L,g.V.trans h.V⟩;rcases aag.1 a with a|a
 ·exact⟨(d1 o a).1.mono g1 g3,(d1 o a).2⟩
 ·exact d2 o a
theorem GE.mono{c c':LD}{k k':List bq}(h:GE c c' w k)(b:w≤w')(a:k=k'):GE c c' w' k':=by obtain⟨n1,a1,b1,d1⟩:=h.new;subst a;have d:=h.r1;have e:=h.s1;have f:=h.sw;exact⟨⟨n1,a1,by omega,d1⟩,h.r0,by omega,h.s1,h.sc,by omega,h.kI,h.L,h.V⟩
theorem BD.mono{c:LD}(h:BD c w)(k:w'≤w):BD c w':=⟨by have:=h.A;omega,by have:=h.r;omega,by have:=h.l;omega,by have:=h.s;omega,by have:=h.L;omega⟩
theorem GE.bd{c c':LD}{k:List bq}(g:GE c c' w k)(h:BD c (w+m)):BD c' m:=by obtain⟨n1,a1,b1,d1⟩:=g.new;have h1:=h.A;have a:=h.r;have b:=h.l;have d:=h.s;have e:=h.L;have g2:=g.r1;have g5:=g.s2;refine⟨by rw[a1,abI];omega,by omega,by rw[g.kI];omega,by omega,by rw[g.L];omega⟩
theorem GE.add{c:LD}{o:dv}(h:iD c.bj c.sn o)(hn:mj o):GE c (c.add o) 1 []:=
 ⟨⟨[{o with V:=c.V}],rfl,sl _,λp hp=>by rw[acR]at hp;subst hp;exact⟨h.V _,hn⟩⟩,sl _,YH _,rfl,(abQ _).symm,Yz _,rfl,rfl,rfl⟩
theorem GE.BK{c:LD}{o:dv}(h:iD (c.bj+1) c.sn o)(hn:mj o):GE c ({c with bj:=c.bj+1}.add o) 1 []:=
 ⟨⟨[{o with V:=c.V}],rfl,sl _,λp hp=>by rw[acR]at hp;subst hp;exact⟨h.V _,hn⟩⟩,YH _,sl _,rfl,(abQ _).symm,Yz _,rfl,rfl,rfl⟩
structure GS(c c':LD)(w:Nat)(k:List bq):Prop where
 new:∃new,c'.A=c.A++new∧new.length≤w∧(∀o∈new,iD c'.bj c'.sn o)∧fw c.labels c'.labels new
 r0:c.bj≤c'.bj
 r1:c'.bj≤c.bj+w
 s1:c'.sn=c.sn+k.length
 sc:c'.sc=c.sc++k.flatMap bq.cells
 sw:k.length≤w
 l1:c'.labels≤c.labels+w
theorem GE.gs{c c':LD}{k:List bq}(h:GE c c' w k):GS c c' w k:=by obtain⟨n1,a1,b1,d1⟩:=h.new;exact⟨⟨n1,a1,b1,λo a=>(d1 o a).1,by rw[h.kI];exact fw.none λo a=>(d1 o a).2⟩,h.r0,h.r1,h.s1,h.sc,h.sw,by rw[h.kI];omega⟩
theorem GS.trans{c b d:LD}{k k':List bq}(h:GS c b w k)(g:GS b d w' k'):GS c d (w+w') (k++k'):=by
 obtain⟨n1,a1,b1,d1,e1⟩:=h.new;obtain⟨n2,a2,b2,d2,e⟩:=g.new;have h1:=h.r0;have f:=h.r1;have i:=h.s1;have j:=h.sw;have l:=h.l1;have g1:=g.r0;have g2:=g.r1;have g4:=g.s1;have g5:=g.sw;have g6:=g.l1;refine⟨⟨n1++n2,by rw[a2,a1,acI],by rw[abI];omega,λo a=>?_,e1.trans e⟩,by omega,by omega,by rw[abI];omega,by rw[g.sc,h.sc,acH,acI],by rw[abI];omega,by omega⟩;rcases aag.1 a with a|a
 ·exact(d1 o a).mono g1 (by omega)
 ·exact d2 o a
theorem GS.mono{c c':LD}{k k':List bq}(h:GS c c' w k)(b:w≤w')(a:k=k'):GS c c' w' k':=by obtain⟨n1,a1,b1,d1,e1⟩:=h.new;subst a;have d:=h.r1;have e:=h.sw;have f:=h.l1;exact⟨⟨n1,a1,by omega,d1,e1⟩,h.r0,by omega,h.s1,h.sc,by omega,by omega⟩
theorem GS.A{c c':LD}{k:List bq}(g:GS c c' w k):c'.A.length≤c.A.length+w:=by obtain⟨n1,a1,b1,d1,e1⟩:=g.new;rw[a1,abI];omega
theorem GS.bd{c c':LD}{k:List bq}(g:GS c c' w k)(h:BD c (w+m))(a:c'.L.length≤c.L.length+w):BD c' m:=by have h1:=h.A;have b:=h.r;have d:=h.l;have e:=h.s;have f:=h.L;have g1:=g.A;have g2:=g.r1;have g4:=g.s1;have g5:=g.sw;have g6:=g.l1;exact⟨by omega,by omega,by omega,by omega,by omega⟩
mutual
def dM:X→Nat
 | .mk kind n E op aV place bn=>16+(if kind≥4 then 256 else 0)+fx place+dI bn
def dI:List X→Nat
 |[]=>0
 |e::r=>dM e+dI r
def fx:aM→Nat
 | .mk var aC=>gD aC
def gD:List K→Nat
 |[]=>0
 |p::r=>ml p+gD r
def ml:K→Nat
 | .mk field bb=>dI bb
end
mutual
def gk(l:Int):X→List bq
 | .mk kind n E op aV place bn=>gE l place++dN l bn++(if kind≥4 then [⟨10+kind,aV,l,place⟩]else [])
def dN(l:Int):List X→List bq
 |[]=>[]
 |e::r=>gk l e++dN l r
def gE(l:Int):aM→List bq
 | .mk var aC=>jr l aC
def jr(l:Int):List K→List bq
 |[]=>[]
 |p::r=>om l p++jr l r
def om(l:Int):K→List bq
 | .mk field bb=>dN l bb
end
mutual
def ke:aw→Nat
 | .mk kind V E cg aV place bc be bw=>16+(if 3≤kind∧kind≤7 then 256 else 0)+fx place+dI bc+(cm be+cm bw)
def cm:List aw→Nat
 |[]=>0
 |x::r=>ke x+cm r
end
mutual
def kJ:aw→List bq
 | .mk kind V E cg aV place bc be bw=>gE V place++dN V bc++(if 3≤kind∧kind≤7 then [⟨kind,aV,V,place⟩]else [])++(fb be++fb bw)
def fb:List aw→List bq
 |[]=>[]
 |x::r=>kJ x++fb r
end
theorem Jm(e:X):dM e=16+(if e.kind≥4 then 256 else 0)+fx e.place+dI e.bn:=by cases e;rw[dM]
theorem TB(x:aM):fx x=gD x.aC:=by cases x;rw[fx]
theorem Jn(p:K):ml p=dI p.bb:=by cases p;rw[ml]
theorem xk(l:Int)(e:X):gk l e=gE l e.place++dN l e.bn++(if e.kind≥4 then [⟨10+e.kind,e.aV,l,e.place⟩]else []):=by cases e;rw[gk]
theorem oo(l:Int)(x:aM):gE l x=jr l x.aC:=by cases x;rw[gE]
theorem Jo(l:Int)(p:K):om l p=dN l p.bb:=by cases p;rw[om]
theorem Jq(x:aw):ke x=16+(if 3≤x.kind∧x.kind≤7 then 256 else 0)+fx x.place+dI x.bc+(cm x.be+cm x.bw):=by cases x;rw[ke]
theorem Jr(x:aw):kJ x=gE x.V x.place++dN x.V x.bc++(if 3≤x.kind∧x.kind≤7 then [⟨x.kind,x.aV,x.V,x.place⟩]else [])++(fb x.be++fb x.bw):=by cases x;rw[kJ]
end Rb

namespace Rb
open Go
variable{t:T}{f:ay}{s:bp}
def XF(f:ay)(x:Int×Int):Prop:=0≤x.1∧(f.bits=true→0≤x.2∧x.2≤64)∧(f.bits=false→x.2=8*(A f.type).1.1)
theorem TC{packed:Bool}{kind a:Int}(d:0≤a)(g:mS packed f)(hb:qg f.type)(ht:(A f.type).2=true):XF f ((eT packed kind a f (A f.type).1).1,(eT packed kind a f (A f.type).1).2.1):=by
 obtain⟨b1,b2,b3,i⟩:=hb ht;have h:0≤(if kind=4 then(0:Int)else a):=by split;decide;exact d
 unfold eT;dsimp only;generalize (if kind=4 then(0:Int)else a)=b at *;by_cases c:f.bits=true
 · obtain ⟨j,k,l,y3,y4,_⟩:=g c;rw[aa c];refine⟨?_,λ_=>⟨y3,?_⟩,λe=>by rw[c]at e;cases e⟩
   · show 0≤bM b _;split
     ·have:=hj (n:=b) (step:=8*f.type.size) (by omega);omega
     ·rw[r6];exact h
   ·show f.aN≤64;omega
 · rw[ae c];refine⟨?_,λe=>absurd e c,λ_=>rfl⟩;show 0≤bM b _;split
   ·have:=hj (n:=b) (step:=8) (by omega);omega
   ·have:=hj (n:=b) (step:=8*(A f.type).1.2) (by omega);omega
theorem Js{packed:Bool}{kind:Int}:∀{l:List ay}{p q:PL}{n:Nat},n+l.length≤32→iX p n→(∀f∈l,mS packed f∧qg f.type)→dW packed kind p l=some q →
  ∃ss:List bp,q.du=p.du++ss∧∀(i:Nat)(f:ay)(s:bp),l[i]?=some f→ss[i]?=some s→∃x,s=kC f x∧XF f x
 | [],p,q,n,hn,hp,hl,h=>by simp only[dW,Yh.injEq]at h;subst h;exact⟨[],by simp,λi f s hf=>by simp at hf⟩
 | f :: r,p,q,n,hn,hp,hl,h=>by
  obtain⟨o1,o2⟩:=hl f (aap ..);have c:n+1+r.length≤32:=by rw[abJ]at hn;omega
  simp only[dW,qb]at h;by_cases ht:(A f.type).2=true
  · rw [aa ht]at h;obtain⟨b1,b2,b3,d⟩:=o2 ht;have hb:f.bits=true→1≤f.type.size∧f.type.size≤8∧0≤f.aN∧f.aN≤8*f.type.size∧packed=false∧(A f.type).1.2=f.type.size:=λhb=>by
     obtain⟨e,z2,z3,z4,z5,j⟩:=o1 hb;exact⟨z2,z3,z4,z5,j,by rw[n_ (.inl e)]⟩
    obtain⟨e1,k⟩:=AU (packed:=packed) (kind:=kind) (g:=(A f.type).1) (by omega) hp b1 b2 b3 d (λq=>⟨(hb q).1,(hb q).2.1,(hb q).2.2.1,(hb q).2.2.2.1⟩);have m:=AX (kind:=kind) hp (f:=f) (g:=(A f.type).1) b3 (λq=>⟨(hb q).1,(hb q).2.2.1,(hb q).2.2.2.1,(hb q).2.2.2.2.1,(hb q).2.2.2.2.2⟩);obtain⟨ss,b,o⟩:=Js c k (λg a=>hl g (aao _ a)) h;rw[e1,m]at b;refine⟨kC f ((eT packed kind p.bit f (A f.type).1).1,(eT packed kind p.bit f (A f.type).1).2.1)::ss,by rw[b,acI];rfl,λi g s a hs=>?_⟩;cases i with
    | zero=>simp only[abp,Yh.injEq]at a hs;subst a;exact⟨_,hs.symm,TC hp.b0 o1 o2 ht⟩
    | succ i=>simp only[abq]at a hs;exact o i g s a hs
  ·rw[ae ht]at h;cases h
structure oq(t:T)(s:bp):Prop where
 bits:s.bits=true→t.kind=1∧0≤s.len∧s.len≤9
 len:s.bits=false→s.len=(aZ t).1.1
 bit:0≤s.bit∧s.bit≤7
 wid:0≤s.aN
theorem TD(h:t.lay)(a:t.kind=3∨t.kind=4){n:Nat}(hf:t.aD[n]?=some f)(hs:(cH t)[n]?=some s)(d:f.type.lay):oq f.type s:=by
 obtain⟨p,hp,_⟩:=qi h a;have b:=fM h.snd;have hlen:=A1 b a;have c:∀f∈t.aD,mS t.packed f:=by
  have hs:=b;rw[gA]at hs;split at hs
  ·exact absurd hs (by decide)
  · rw[ae (show ¬t.kind=1 by omega),ae (show ¬t.kind=2 by omega),ae (show ¬t.kind=5 by omega),bC]at hs;exact A0 hs
 obtain⟨ss,g,i⟩:=Js (n:=0) (by omega) iX.zero (λf hf=>⟨c f hf,A2 f.type ((mO b a).1 f hf)⟩) hp;unfold cH at hs;rw[hp]at hs;dsimp only at hs;rw[g]at hs;obtain⟨x,e,m,j,k⟩:=i n f s hf (by simpa using hs);have l:=d.zero;rw[e];unfold kC;by_cases hb:f.bits=true
 · rw[aa hb];obtain⟨z0,o⟩:=j hb;refine⟨λ_=>⟨(c f (aaN hf) hb).1,?_,?_⟩,λe=>(by cases e),⟨?_,?_⟩,z0⟩
   ·show 0≤(if x.2>0 then _ else _);split<;>omega
   ·show(if x.2>0 then _ else _)≤_;split<;>omega
   ·show 0≤x.1%8;omega
   ·show x.1%8≤7;omega
 · rw[ae hb];have:=k (by simpa using hb);refine⟨λe=>(by cases e),λ_=>?_,⟨ach 0,(by decide:(0:Int)≤7)⟩,ach 0⟩;show x.2/8=(aZ f.type).1.1;rw[l,this];dsimp only;omega
theorem xm(ht:t.lay)(h:oq t s)(a:t.kind=1∨t.kind=2):0≤s.len∧s.len≤16∧(t.kind=2→s.len=t.size)∧(t.size=1∨t.size=2∨t.size=4∨t.size=8∨t.size=16):=by
 have hs:=fM ht.snd;have hz:=wX hs a;have hp : t.size=1∨t.size=2∨t.size=4∨t.size=8∨t.size=16:=by
  rw[gA]at hs;split at hs
  ·cases hs
  · have hp:fh t.size 8=true∨fh t.size 16=true:=by
      rcases a with h1|h1
      · rw[aa h1]at hs;split at hs
        ·exact .inl ‹_›
        ·cases hs
      · rw[bC,aa h1]at hs;split at hs
        ·exact .inr ‹_›
        ·cases hs
    rcases hp with hp|hp<;>(simp[fh]at hp;omega)
 have hl:(aZ t).1.1=t.size:=by rw[ht.zero,n_ a]
 cases hb:s.bits with
 | true=>have:=h.bits hb;exact⟨this.2.1,by omega,λe=>by omega,hp⟩
 | false=>have:=h.len hb;rw[hl]at this;exact⟨by omega,by omega,λ_=>this,hp⟩
theorem xp{k:Int}(h:j5 k t=true):(t.kind=1∨t.kind=2)∧((k=3∨k=14)→t.kind=1)∧(¬(k=3∨k=14)→t.kind=2)∧(¬(k=3∨k=14)→¬(k=5∨k=6)→t.size≤8):=by
 unfold j5 at h;by_cases h1:k=3∨k=14
 · rw[aa h1]at h;have:t.kind=1:=by simpa using h
   exact⟨.inl this,λ_=>this,λe=>absurd h1 e,λe=>absurd h1 e⟩
 · rw [ae h1]at h;by_cases a:k=5∨k=6
   · rw[aa a]at h;simp only[X7,bG]at h;exact⟨.inr h.1,λe=>absurd e h1,λ_=>h.1,λ_ e=>absurd a e⟩
   · rw[ae a]at h;simp only[X7,bG,dQ]at h;exact⟨.inr h.1,λe=>absurd e h1,λ_=>h.1,λ_ _=>h.2⟩
end Rb

namespace Rb
open Go
variable{x:I}{n0 sz len:Nat}{cells:List I}{n:Int}
def kf(vars:List U)(wh xo xs F:I)(c:LD):List I:=[av U.cells vars,wh,xo,.int .i64 (c.bj:Nat),.int .i64 (c.labels:Nat),xs,.int .i64 c.V,F]
structure bB(H:Z)(id:Nat)(vars:List U)(wh F:I)(c:LD):Prop where
 x:∃xo xs,At H id (.row (kf vars wh xo xs F c))∧cC (id+1) H 13 xo c.A.length (c.A.flatMap dv.cells)∧cC (id+1) H 5 xs c.sn c.sc∧∀t l c1,xo = .aq (.own t) l c1→∀l2 c2,xs ≠ .aq (.own t) l2 c2
 l:cP H 2 F c.L.length (c.L.flatMap jq)
 ld:∀j,bQ F=some j→id<j
 lo:∀p∈c.L,p.2<c.bj
theorem bB.sC{H:Z}{id:Nat}{vars:List U}{wh F:I}{c:LD}(h:bB H id vars wh F c):bQ F≠some id:=λe=>acS _ (h.ld _ e)
def KR(id:Nat)(H H':Z):Prop:=H.n≤H'.n∧∀i cs,i≠id→At H i (.row cs)→At H' i (.row cs)
section
variable{id j k N:Nat}{vars:List U}{wh F v:I}{c c':LD}{H0 H H1 H2:Z}{cs:List I}
theorem KR.refl:KR id H H:=⟨sl _,λ_ _ _ h=>h⟩
theorem KR.trans(h:KR id H H1)(k:KR id H1 H2):KR id H H2:=⟨xl h.1 k.1,λi cs hi a=>k.2 i cs hi (h.2 i cs hi a)⟩
theorem KR.ext(E:Z.Ext H H1):KR id H H1:=⟨E.1,λ_ _ _ h=>h.ext E⟩
theorem KR.set(o:bL):KR id H (H.set id o):=⟨sl _,λ_ _ hi h=>h.bZ hi o⟩
theorem cC.Jt(h:cC n0 H sz x len cells)(k:∀t l d a b,x = .aq (.own t) l d→At H t (.tok a b)→At H1 t (.tok a b)):cC n0 H1 sz x len cells:=by
 obtain⟨tk,c,hc,ht⟩:=h;refine⟨tk,c,hc,?_⟩;rcases ht with ht|ht|⟨t,rfl,e,f⟩
 ·exact .inl ht
 ·exact .inr (.inl ht)
 ·exact .inr (.inr ⟨t,rfl,e,k t _ _ _ _ c f⟩)
def One(v:I):Prop:=v.known=true∧v.cells=[v]∧v.scalar=true
theorem One.int{k:IntKind}:One (.int k n):=⟨rfl,rfl,rfl⟩
theorem cC.one(h:cC n0 H sz x len cells):One x∧bo false x=some (.int .i64 len):=by obtain⟨tk,rfl,_⟩:=h;exact⟨⟨rfl,rfl,rfl⟩,rfl⟩
theorem At.st1(h:At H j (.row cs))(a:k<cs.length)(hv:One v):Y H 1 (.ptr j k) v=some (H.set j (.row (cs.set k v))):=by rw[h.store,aa ⟨hv.1,by rw[hv.2.1];rfl,by rw[hv.2.1];simp[hv.2.2],a⟩,hv.2.1];rfl
theorem bB.ext(h:bB H id vars wh F c)(E:Z.Ext H H1):bB H1 id vars wh F c:=by obtain⟨xo,xs,a,b,d,e⟩:=h.x;exact⟨⟨xo,xs,a.ext E,b.frame λ_ _ _ h=>h.ext E,d.frame λ_ _ _ h=>h.ext E,e⟩,h.l.ext E,h.ld,h.lo⟩
theorem bB.other(h:bB H id vars wh F c)(g:At H j (.row cs))(i:j≠id)(k:bQ F≠some j)(ds:List I):bB (H.set j (.row ds)) id vars wh F c:=by obtain⟨xo,xs,a,b,d,e⟩:=h.x;have f:∀t a b,At H t (.tok a b)→At (H.set j (.row ds)) t (.tok a b):=λt a b h=>h.bZ (h.ne g (by intro e;cases e)) _;exact⟨⟨xo,xs,a.bZ i.symm _,b.frame f,d.frame f,e⟩,h.l.set k _,h.ld,h.lo⟩
theorem bB.uv(h:bB H id vars wh F c):O H 1 false (.ptr id 3)=some (.int .i64 (c.bj:Nat)):=by obtain⟨xo,xs,a,_⟩:=h.x;rw[a.load];rfl
theorem bB.kI(h:bB H id vars wh F c):O H 1 false (.ptr id 4)=some (.int .i64 (c.labels:Nat)):=by obtain⟨xo,xs,a,_⟩:=h.x;rw[a.load];rfl
theorem bB.ln(h:bB H id vars wh F c):O H 1 false (.ptr id 6)=some (.int .i64 c.V):=by obtain⟨xo,xs,a,_⟩:=h.x;rw[a.load];rfl
theorem bB.lcs(h:bB H id vars wh F c):O H 1 false (.ptr id 7)=some F:=by obtain⟨xo,xs,a,_⟩:=h.x;rw[a.load];rfl
theorem bB.vs(h:bB H id vars wh F c):O H 1 false (.ptr id 0)=some (av U.cells vars):=by obtain⟨xo,xs,a,_⟩:=h.x;rw[a.load];rfl
theorem bB.TE(h:bB H id vars wh F c):O H 1 false (.ptr id 1)=some wh:=by obtain⟨xo,xs,a,_⟩:=h.x;rw[a.load];rfl
theorem bB.own(h:bB H id vars wh F c)(f:(k=3∧n=c'.bj∧c.bj≤c'.bj∧c'.labels=c.labels∧c'.V=c.V)∨(k=4∧n=c'.labels∧c'.bj=c.bj∧c'.V=c.V)∨(k=6∧n=c'.V∧c'.bj=c.bj∧c'.labels=c.labels))(i:c'.A=c.A)(j:c'.sn=c.sn)(m:c'.sc=c.sc)(g:c'.L=c.L) :
  ∃H',Y H 1 (.ptr id k) (.int .i64 n)=some H'∧KR id H H'∧bB H' id vars wh F c':=by
 obtain⟨xo,xs,a,b,d,e⟩:=h.x;refine⟨_,a.st1 (by rcases f with⟨rfl,_⟩|⟨rfl,_⟩|⟨rfl,_⟩<;>(show _<8;decide)) One.int,KR.set _,⟨xo,xs,?_,?_,?_,e⟩,by rw[g];exact h.l.set h.sC _,h.ld,?_⟩
 · have:(kf vars wh xo xs F c).set k (.int .i64 n)=kf vars wh xo xs F c':=by
     unfold kf;rcases f with⟨rfl,rfl,_,k1,k2⟩|⟨rfl,rfl,k1,k2⟩|⟨rfl,rfl,k1,k2⟩<;>(rw[k1,k2];rfl)
   rw[this];exact a.set _
 ·rw[i];exact b.frame λt _ _ h=>h.bZ (h.ne a (by intro e;cases e)) _
 ·rw[j,m];exact d.frame λt _ _ h=>h.bZ (h.ne a (by intro e;cases e)) _
 · rw[g];intro p hp;have:=h.lo p hp;rcases f with⟨_,_,k1,_⟩|⟨_,_,k1,_⟩|⟨_,_,k1,_⟩<;>omega
structure Bx(H0:Z)(id:Nat)(F:I)(H:Z)(j N:Nat)(cs:List I):Prop where
 a:At H j (.row cs)
 ne:j≠id
 nx:bQ F≠some j
 lo:H0.n≤j
 len:cs.length=N
theorem Bx.aI(b:Bx H0 id F H j N cs)(k:KR id H H1):Bx H0 id F H1 j N cs:=⟨k.2 _ _ b.ne b.a,b.ne,b.nx,b.lo,b.len⟩
theorem bB.box(h:bB H id vars wh F c)(k:KR id H0 H)(hl:cs.length=N):Bx H0 id F (H.push (.row cs)) H.n N cs:=by obtain⟨xo,xs,a,_⟩:=h.x;exact⟨At.new H _,by have:=a.1;omega,λe=>by have:=h.l.lt e;omega,k.1,hl⟩
theorem KR.box(k:KR id H0 H)(b:H0.n≤j)(o:bL):KR id H0 (H.set j o):=⟨k.1,λi cs hi a=>(k.2 i cs hi a).bZ (by have:=a.1;omega) o⟩
theorem Bx.other{c:Nat}(b:Bx H0 id F H j N cs)(h:j≠c)(o:bL):Bx H0 id F (H.set c o) j N cs:=⟨b.a.bZ h o,b.ne,b.nx,b.lo,b.len⟩
theorem Bx.set(b:Bx H0 id F H j N cs)(ds:List I)(hl:ds.length=N):Bx H0 id F (H.set j (.row ds)) j N ds:=⟨b.a.set _,b.ne,b.nx,b.lo,hl⟩
theorem Bx.lt(b:Bx H0 id F H j N cs)(k:KR id H H1):j<H1.n:=AH b.a.1 k.1
theorem Bx.st(b:Bx H0 id F H j N cs)(h:bB H id vars wh F c)(e:KR id H0 H)(f:k<N)(hv:One v){P:Z→Prop}
  (g:∀H',KR id H0 H'→bB H' id vars wh F c→Bx H0 id F H' j N (cs.set k v)→(∀d M ds,d≠j→Bx H0 id F H d M ds→Bx H0 id F H' d M ds)→P H'):Do (Y H 1 (.ptr j k) v) P:=by
 rw[b.a.st1 (by rw[b.len];exact f) hv,D];exact g _ (e.box b.lo _) (h.other b.a b.ne b.nx _) (b.set _ (by rw[aam];exact b.len)) λd M ds hn b2=>b2.other hn _
theorem Bx.ld(b:Bx H0 id F H j N cs)(c:cs[k]?=some x):O H 1 false (.ptr j k)=some x:=by rw[b.a.load];unfold bT;have:=(X1.1 c).1;rw[cY,el];exact c
theorem Bx.all(b:Bx H0 id F H j N cs):O H N true (.ptr j 0)=some (.agg cs):=b.a.all b.len
end
section
variable{C:Ctx}(ak:bP C)(hT:Cl (ai C) S.bu){id:Nat}{vars:List U}{wh F:I}{c:LD}{H0 H:Z}{Q:ad}
include ak hT
theorem jK{P:I→Z→Prop}{k:Int}(h:bB H id vars wh F c)(b:KR id H0 H)(d:∀j H',KR id H H'→bB H' id vars wh F c→Bx H0 id F H' j 13 (BI k).cells→H.n≤j→P (.ptr j 0) H') :
  ai C 107 [.int .i64 k] H λe H2=>au (some (aJ H2 true [.int .i64 0,.int .i64 0,.int .i64 0,.int .i64 0,.int .i64 0,.int .i64 0,.int .u64 0,.int .i64 0,.int .i64 0,.int .i64 0,.int .i64 0,.int .i64 0,.int .i64 0])) λa f=>Do (Y f 13 a e) λg=>P a g:=by
 refine S.PF hT ?_;unfold S.f107;rw[show bm [.int .i64 0,.int .i64 0,.int .i64 0,.int .i64 0,.int .i64 0,.int .i64 0,.int .u64 0,.int .i64 0,.int .i64 0,.int .i64 0,.int .i64 0,.int .i64 0,.int .i64 0] [(0,1,.int .i64 k),(1,1,(.int .i64 (-1))),(2,1,(.int .i64 (-1))),(3,1,(.int .i64 (-1))),(4,1,(.int .i64 (-1))),(5,1,(.int .i64 (-1)))]=some (.agg (BI k).cells)from rfl];simp only[aJ,aY,aP,D];rw[cM _ _ _ 13 rfl rfl rfl];simp only[D,eK];rw[gJ (n:=13) rfl];simp only[D];rw[cM _ _ _ 13 rfl rfl rfl];simp only[D];have E:=Z.Ext.push H (.row (BI k).cells);have h1:=h.ext E;have k1:=b.trans (KR.ext E);exact d _ _ ((KR.ext E).trans (KR.ext (Z.Ext.push _ _))) (h1.ext (Z.Ext.push _ _)) (h1.box k1 rfl) (YH _)
theorem jt(h:bB H id vars wh F c)(hl:c.A.length≤1000000000000)(o:dv)(hQ:∀H',KR id H H'→bB H' id vars wh F (c.add o)→Q (.ar []) H'):ai C 109 [.ptr id 0,.agg o.cells] H Q:=by
 refine S.PH hT ?_;unfold S.f109;have hb:aK H true 13 (.agg o.cells)=some (.ptr H.n 0,H.push (.row o.cells)):=by unfold aK;rw[aa ⟨rfl,o.len⟩];rfl
 rw[hb];simp only[aP,aX,W,YO,D];have b1:=h.box (KR.refl (id:=id)) o.len;have k1:KR id H (H.push (.row o.cells)):=KR.ext (Z.Ext.push _ _);have h1:=h.ext (Z.Ext.push H (.row o.cells));simp only[h1.ln,D];refine b1.st h1 k1 (by decide) One.int λH2 k2 f b2 _=>?_;have b:o.cells.set 12 (.int .i64 c.V)=({o with V:=c.V}:dv).cells:=rfl;rw[b]at b2;obtain⟨xo,xs,a,k,hs,p⟩:=f.x;rw[a.load,show bT (kf vars wh xo xs F c) 2 1 false=some xo from rfl];simp only[D,b2.all];rw[show dk H2 false 13 1 [.int .i64 0,.int .i64 0,.int .i64 0,.int .i64 0,.int .i64 0,.int .i64 0,.int .u64 0,.int .i64 0,.int .i64 0,.int .i64 0,.int .i64 0,.int .i64 0,.int .i64 0] [(0,13,.agg ({o with V:=c.V}:dv).cells)]=some (.aq .full 1 ({o with V:=c.V}:dv).cells,H2)from rfl];simp only[aP];refine k.IK (by have:=a.1;omega) (m:=1) (news:=({o with V:=c.V}:dv).cells) rfl rfl rfl (by decide) (by omega) (by omega) λq r hn hk=>?_;have g:∀i ds,At H2 i (.row ds)→At q i (.row ds):=λi ds hi=>hk i _ hi λl cs e=>by
  subst e;obtain⟨tk,e1,_,b⟩:=k;cases e1;rcases b with⟨e,_⟩|e|⟨t,e,_,b⟩
  ·cases e
  ·cases e
  ·cases e;exact absurd (b.2.symm.trans hi.2) (by intro e;cases e)
 have a3:=g _ _ a;rw[a3.st1 (by show 2<8;decide) ⟨rfl,rfl,rfl⟩];simp only[D];refine hQ _ (k2.trans (KR.trans ⟨acB hn,λi ds _=>g i ds⟩ (KR.set _))) ⟨⟨_,xs,a3.set _,?_,?_,λt l c1 e l2 c2 b=>?_⟩,(f.l.aI λi cs _=>g i cs).set f.sC _,f.ld,f.lo⟩
 · have e:(c.add o).A=c.A++[{o with V:=c.V}]:=rfl;rw[e,abI,acH,acT];exact r.frame λt _ _ h=>h.bZ (h.ne a3 (by intro e;cases e)) _
 ·exact hs.Jt λt l d x y e ht=>(hk t _ ht λl1 c1 e1=>p t l1 c1 e1 _ _ e).bZ (ht.ne a (by intro e;cases e)) _
 · cases e;obtain⟨tk,e1,_,j⟩:=hs;rw[b]at e1;cases e1;rcases j with⟨e,_⟩|e|⟨t,e,_,j⟩
   ·cases e
   ·cases e
   ·cases e;have:=j.1;omega
end
end Rb

namespace Rb
open Go
structure ot(Φ:aj):Prop where
 row:∀{H:Z}{Q:ad}{id:Nat}{cs:List I}{l:List (Int×Int)},At H id (.row cs)→cs.take (l.length*2)=l.flatMap u→l.length<4611686018427387904→Q (.ar []) (H.set id (.row ((ef l).flatMap u++cs.drop (l.length*2))))→Φ 89 [.row id 0 l.length 2,.fn 90 []] H Q
 none:∀{H:Z}{Q:ad}{tk:Tok},Q (.ar []) H→Φ 89 [.aq tk 0 [],.fn 90 []] H Q
theorem xq:∀l:List (Int×Int),(cw l).length≤l.length
 |[]=>by rw[cw];exact sl _
 |[x]=>by rw[cw];exact sl _
 | x::y::r=>by
  rw[cw];split
  ·have:=xq (y::r);rw[abJ];omega
  ·have:=xq (y::r);rw[abJ,abJ];omega
structure Bk.ok(b:Bk):Prop where
 a:b.l.length≤8193
 n:b.full=false→b.l.length≤8192
theorem Bk.TF{b:Bk}(h:b.l.length≤8193):b.tidy.ok:=by
 have:=xq (ef b.l);rw[nQ]at this;refine⟨by show(cw (ef b.l)).length≤_;omega,λe=>?_⟩;have h1:(b.full||decide ((cw (ef b.l)).length>4096))=false:=e;rw[aaq]at h1;have a:¬(cw (ef b.l)).length>4096:=by simpa using h1.2
 show(cw (ef b.l)).length≤_;omega
theorem Bk.xf{b:Bk}(h:b.ok)(s:Int×Int):(b.put s).l.length≤8193:=by
 unfold Bk.put;split
 ·exact h.a
 · rename_i e;have:=h.n (by simpa using e);show(b.l++[s]).length≤_;rw[abI,acq];omega
theorem Bk.Ju{b:Bk}(h:b.ok)(s:Int×Int):(b.add s).ok:=by
 unfold Bk.add;split
 ·exact Bk.TF (Bk.xf h s)
 · rename_i e;exact⟨Bk.xf h s,λ_=>by omega⟩
structure eE(H:Z)(id:Nat)(F:I)(b:Bk):Prop where
 a:At H id (.row [F,.bool b.full])
 l:cP H 2 F b.l.length (b.l.flatMap u)
 d:bQ F≠some id
def fP(id:Nat)(F:I)(H H':Z):Prop:=H.n≤H'.n∧∀i o,i≠id→bQ F≠some i→At H i o→At H' i o
def NB(H:Z)(F a:I):Prop:=bQ a=bQ F∨∃j,H.n≤j∧bQ a=some j
theorem fP.refl(id:Nat)(F:I)(H:Z):fP id F H H:=⟨sl _,λ_ _ _ _ h=>h⟩
theorem NB.ne{H:Z}{F a:I}{i:Nat}(h:NB H F a)(hi:i<H.n)(k:bQ F≠some i):bQ a≠some i:=by
 rcases h with h|⟨j,b,h⟩
 ·rw[h];exact k
 ·rw[h];intro e;cases e;omega
theorem fP.trans{id:Nat}{F d:I}{a b c:Z}(h:fP id F a b)(n:NB a F d)(k:fP id d b c):fP id F a c:=⟨xl h.1 k.1,λi o hi e f=>k.2 i o hi (n.ne f.1 e) (h.2 i o hi e f)⟩
theorem NB.trans{F d e:I}{a b:Z}(h:NB a F d)(hn:a.n≤b.n)(k:NB b d e):NB a F e:=by
 rcases k with k|⟨j,c,k⟩
 · rcases h with h|⟨j,c,h⟩
   ·exact .inl (k.trans h)
   ·exact .inr ⟨j,c,k.trans h⟩
 ·exact .inr ⟨j,xl hn c,k⟩
theorem eE.mV{H:Z}{id:Nat}{F:I}{b:Bk}(h:eE H id F b):O H 1 false (.ptr id 0)=some F:=by rw[h.a.load];rfl
theorem eE.ld1{H:Z}{id:Nat}{F:I}{b:Bk}(h:eE H id F b):O H 1 false (.ptr id 1)=some (.bool b.full):=by rw[h.a.load];rfl
theorem iZ(i k:Nat):W k (.ptr i 0)=some (.ptr i k):=by simp[W]
section
variable{C:Ctx}(ak:bP C)(hT:Cl (ai C) S.bu)(hS:ot (ai C)){H:Z}{Q:ad}{id:Nat}{F:I}{b:Bk}
include ak hT hS
theorem Jv(h:eE H id F b)(hb:b.l.length≤8193)(hQ:∀x H',H'.n=H.n→fP id F H H'→bQ x=bQ F→eE H' id x b.tidy→Q (.ar []) H'):ai C 58 [.ptr id 0] H Q:=by
 refine S.O8 hT ?_;unfold S.f58;simp only[aX,iZ,h.mV,D];have y:=xq (ef b.l);rw[nQ]at y;have tail:∀(c:I)(g:Z),g.n=H.n→fP id F H g→bQ c=bQ F→At g id (.row [F,.bool b.full])→cP g 2 c (cw (ef b.l)).length ((cw (ef b.l)).flatMap u) →
   Do (Y g 1 (.ptr id 0) c) λq=>Do (O q 1 false (.ptr id 1)) λG=>aL G false (Do (O q 1 false (.ptr id 0)) λJ=>Do (bo false J) λK=>Do (ab .gtr K (.int .i64 4096)) λL=>Do (Y q 1 (.ptr id 1) L) λs=>Q (.ar []) s) (Do (Y q 1 (.ptr id 1) (.bool true)) λM=>Q (.ar []) M) False:=by
  intro c g hn hk r ha hl;obtain⟨n1,n2,n3⟩:=hl.known;have t:bQ c≠some id:=by rw[r];exact h.d
  rw[ha.st1 (by show 0<2;decide) ⟨n1,n2,n3⟩];have a3:=ha.set (.row ([F,.bool b.full].set 0 c));have l3:=hl.set t (.row ([F,.bool b.full].set 0 c));have N:fP id F H (g.set id (.row ([F,.bool b.full].set 0 c))):=⟨by show H.n≤g.n;omega,λi o hi k f=>(hk.2 i o hi k f).bZ hi _⟩
  simp only[D];generalize P:g.set id (.row ([F,.bool b.full].set 0 c))=p at *;have R:p.n=H.n:=by rw[←P];exact hn
  have a3:At p id (.row [c,.bool b.full]):=a3;have e1:O p 1 false (.ptr id 1)=some (.bool b.full):=by rw[a3.load];rfl
  have e0:O p 1 false (.ptr id 0)=some c:=by rw[a3.load];rfl
  have fin:∀v:Bool,(b.full||decide ((cw (ef b.l)).length>4096))=v→Do (Y p 1 (.ptr id 1) (.bool v)) λs=>Q (.ar []) s:=by intro v hv;rw[a3.st1 (by show 1<2;decide) ⟨rfl,rfl,rfl⟩];simp only[D];refine hQ c _ R ⟨by show H.n≤p.n;omega,λi o hi k f=>(N.2 i o hi k f).bZ hi _⟩ r ⟨?_,l3.set t _,t⟩;have:b.tidy.full=v:=hv;rw[this];exact a3.set _
  simp only[e1,e0,l3.len,D,eu];cases hf:b.full with
  |true=>simp only[cD,cv,aY];exact fin true (by rw[hf];rfl)
  | false=>simp only[cv,ZV,bR];refine fin _ ?_;rw[hf,aai];apply decide_eq_decide.2;omega
 rcases h.l.2 with⟨tk,ht,hz,rfl⟩|⟨j,cs,m,rfl,z,X,T,U⟩
 · refine hS.none ?_;have V:b.l=[]:=acN hz;simp only[h.mV,D];refine S.G7 hT ?_;unfold S.f93;simp only[show bo false (.aq tk 0 [])=some (.int .i64 0)from rfl,D,bD,aB];rw[kE];have e:cw (ef b.l)=[]:=acN (by omega);refine tail _ H rfl (fP.refl _ _ _) rfl h.a ?_;rw[e];have:=h.l;rw[V]at this;exact this
 · have A:j≠id:=λe=>h.d (by rw[e];rfl);refine hS.row z U (by omega) ?_;have r1:=z.set (.row ((ef b.l).flatMap u++cs.drop (b.l.length*2)));have a1:=h.a.bZ (λe=>A e.symm) (.row ((ef b.l).flatMap u++cs.drop (b.l.length*2)));have k1:fP id (.row j 0 b.l.length 2) H (H.set j (.row ((ef b.l).flatMap u++cs.drop (b.l.length*2)))):=⟨sl _,λi o hi k f=>f.bZ (λe=>k (by rw[e];rfl)) _⟩
   have e0:O (H.set j (.row ((ef b.l).flatMap u++cs.drop (b.l.length*2)))) 1 false (.ptr id 0)=some (.row j 0 b.l.length 2):=by rw[a1.load];rfl
   simp only[e0,D];have B:(H.set j (.row ((ef b.l).flatMap u++cs.drop (b.l.length*2)))).n=H.n:=rfl;generalize H.set j (.row ((ef b.l).flatMap u++cs.drop (b.l.length*2)))=H1 at *;rw[←nQ b.l];refine Tz ak hT (by rw[nQ];omega) r1 λa H2 f E w hle r=>?_;refine tail _ H2 (f.1.trans B) ⟨by rw[f.1,B];exact sl _,λi o hi k W=>f.2 i o (λe=>k (by rw[e];rfl)) (k1.2 i o hi k W)⟩ rfl (f.2 _ _ (λe=>A e.symm) a1) ⟨by rw[kd],.inr ⟨j,_,m,rfl,r,?_,?_,?_⟩⟩
   · have y:cs.length-b.l.length*2+b.l.length*2=cs.length:=by
       have:=Zg 2 T;omega
     rw[abI,kd,abS,E,nQ];omega
   ·rw[nQ]at hle;omega
   · rw [←w];have:(a.flatMap u++cs.drop (b.l.length*2)).take ((cw (ef b.l)).length*2)=(a.take (cw (ef b.l)).length).flatMap u:=by
      rw[abL (by rw[kd,E];omega),show a.flatMap u=(a.take (cw (ef b.l)).length).flatMap u++(a.drop (cw (ef b.l)).length).flatMap u by rw[←acH,acP],abL (by rw[kd,ab3];omega),abM (by rw[kd,ab3];omega)]
     rw[w,this,w]
theorem Jw(h:eE H id F b)(hb:b.ok)(s:Int×Int)(hQ:∀p H',fP id F H H'→NB H F p→eE H' id p (b.add s)→(b.add s).ok→Q (.ar []) H'):ai C 87 [.ptr id 0,.agg (u s)] H Q:=by
 refine S.Po hT ?_;unfold S.f87;rw[show aK H false 2 (.agg (u s))=some (.af (u s),H)from rfl];have f:=Bk.Ju hb s;have t:=Bk.xf hb s;simp only[aP,aX,iZ,h.mV,h.ld1,D,dS,aB,show O H 2 true (.af (u s))=some (.agg (u s))from rfl];have k1:∀(g:I)(H1:Z),fP id F H H1→NB H F g→eE H1 id g (b.put s)→S.u6 (ai C) (.ptr id 0) Q [] H1:=by
  intro g H1 hk hn h1;unfold S.u6;simp only[aX,iZ,h1.mV,h1.l.len,D,eu,aB];unfold Bk.add at hQ f;apply aF<;>intro e
  · have k:(b.put s).l.length>8192:=by
      have:(((b.put s).l.length:Nat):Int)>8192:=by simpa using e
      omega
    rw[aa k]at hQ f;refine Jv ak hT hS h1 t λv H2 n2 w x y=>?_;exact hQ v H2 (hk.trans hn w) (hn.trans hk.1 (.inl x)) y f
  · have k:¬(b.put s).l.length>8192:=by
      have:¬(((b.put s).l.length:Nat):Int)>8192:=by simpa using e
      omega
    rw[ae k]at hQ f;exact hQ g H1 hk hn h1 f
 apply aF<;>intro e
 · have hf:b.full=false:=by simpa using e
   have hl:=hb.n hf;rw[show dk H false 2 1 [.int .i64 0,.int .i64 0] [(0,2,.agg (u s))]=some (.aq .full 1 (u s),H)from rfl];simp only[aP];refine h.l.app (by decide) rfl rfl (by omega) (by omega) λj H1 q hn hk c=>?_;obtain⟨n1,n2,n3⟩:=q.known;have a1:=hk _ _ h.d h.a;have r:bQ j≠some id:=by
    rcases c with c|c
    ·rw[c];exact h.d
    ·rw[c];intro e;cases e;exact acS _ h.a.1
   rw[a1.st1 (by show 0<2;decide) ⟨n1,n2,n3⟩];simp only[D,aR];have m:b.put s=⟨b.l++[s],false⟩:=by unfold Bk.put;rw[ae (by rw[hf];decide)]
   refine k1 j _ ⟨hn,λi o hi c z=>(hk i o c z).bZ hi _⟩ (c.imp (λe=>e) λe=>⟨_,sl _,e⟩) ?_;rw[m];refine⟨?_,?_,r⟩
   · have:=a1.set (.row ([F,.bool b.full].set 0 j));rw[hf]at this;rw[hf];exact this
   · show cP _ 2 j (b.l++[s]).length ((b.l++[s]).flatMap u);rw[abI,acH,acT];exact q.set r _
 · have hf:b.full=true:=by simpa using e
   have m:b.put s=b:=by unfold Bk.put;rw[aa hf]
   exact k1 F H (fP.refl _ _ _) (.inl rfl) (by rw[m];exact h)
end
end Rb

namespace Rb
open Go
variable{a b n r l:Int}{R:Nat}
theorem cN(n:Nat):((n:Int)+1)=((n+1:Nat):Int):=by simp
theorem Jx:∀(L:List (List UInt8×Nat)) (k:Nat) (l:List UInt8×Nat),L[k]?=some l→((L.flatMap jq).drop (k*2)).take 2=jq l
 |[],k,l,h=>by simp at h
 | x::r,0,l,h=>by simp at h;subst h;rfl
 | x::r,k+1,l,h=>by have:=Jx r k l (by simpa using h);rw[show(k+1)*2=k*2+2 by omega];exact this
def EX(id:Nat)(vars:List U)(wh F:I)(H:Z)(c:LD)(w:Nat)(k:List bq)(Q:ad):Prop:=∀(r:Int)(c':LD)(H':Z),KR id H H'→bB H' id vars wh F c'→GE c c' w k→dh c'.bj r→Q (.int .i64 r) H'
def EU(id:Nat)(vars:List U)(wh F:I)(H:Z)(c:LD)(w:Nat)(k:List bq)(Q:ad):Prop:=∀(c':LD)(H':Z),KR id H H'→bB H' id vars wh F c'→GE c c' w k→Q (.ar []) H'
theorem i6{R S:Nat}{k d d2 a b c n o z r t s l:Int}(f:1≤k)(g:k≤18)(h:dh R d)(i:dh R d2)(ha:dh R a)(hb:dh R b)(hc:dh R c)(hs:k<4∨13<k∨(1≤s∧s≤(S:Nat)))(hz:k<4∨7<k∨z=1∨z=2∨z=4∨z=8):iD R S ⟨k,d,d2,a,b,c,n,o,z,r,t,s,l⟩:=⟨f,g,h,i,ha,hb,hc,λe1 e=>by have e1:4≤k:=e1;have e:k≤13:=e;show 1≤s∧s≤_;omega,λe1 e=>by have e1:4≤k:=e1;have e:k≤7:=e;show z=1∨z=2∨z=4∨z=8;omega⟩
theorem kK{k d d2 a b c n o z r t s l:Int}(h:k<14∨16<k):mj ⟨k,d,d2,a,b,c,n,o,z,r,t,s,l⟩:=λe=>by have e1:14≤k:=e.1;have f:k≤16:=e.2;omega
theorem ch:dh R (-1):=dh.none R
theorem ju{R n:Nat}(h:n<R):dh R (n:Int):=⟨by omega,by omega⟩
section
variable{C:Ctx}(ak:bP C)(hT:Cl (ai C) S.bu){id:Nat}{vars:List U}{wh F:I}{c:LD}{H0 H:Z}{Q:ad}{w:Nat}
include ak hT
theorem ou(h:bB H id vars wh F c)(hb:BD c (w+1))(hQ:∀H',KR id H H'→bB H' id vars wh F {c with bj:=c.bj+1}→Q (.int .i64 (c.bj:Nat)) H'):ai C 101 [.ptr id 0] H Q:=by
 have d:=hb.r;refine S.Pz hT ?_;unfold S.f101;have a:Zb .i64 ((c.bj:Int)+1)=((c.bj+1:Nat):Int):=by rw[bI,cN]
 have b:Zb .i64 (((c.bj+1:Nat):Int)-1)=(c.bj:Int):=by rw[bI];simp
 obtain⟨H1,e1,k1,h1⟩:=h.own (k:=3) (c':={c with bj:=c.bj+1}) (n:=((c.bj+1:Nat):Int)) (.inl ⟨rfl,rfl,YH _,rfl,rfl⟩) rfl rfl rfl rfl;simp only[aX,W,YO,D,h.uv,b4,a,e1,h1.uv,fZ,b];exact hQ H1 k1 h1
theorem xr(h:bB H id vars wh F c)(hb:BD c (w+1))(hQ:∀H',KR id H H'→bB H' id vars wh F {c with labels:=c.labels+1}→Q (.int .i64 ((c.labels+1:Nat):Int)) H'):ai C 158 [.ptr id 0] H Q:=by
 have b:=hb.l;refine S.Qf hT ?_;unfold S.f158;have a:Zb .i64 ((c.labels:Int)+1)=((c.labels+1:Nat):Int):=by rw[bI,cN]
 obtain⟨H1,e1,k1,h1⟩:=h.own (k:=4) (c':={c with labels:=c.labels+1}) (n:=((c.labels+1:Nat):Int)) (.inr (.inl ⟨rfl,rfl,rfl,rfl⟩)) rfl rfl rfl rfl;simp only[aX,W,YO,D,h.kI,b4,a,e1,h1.kI];exact hQ H1 k1 h1
theorem BL(h:bB H id vars wh F c)(hb:BD c (w+1))(n:Int)(hQ:EX id vars wh F H c 1 [] Q):ai C 146 [.ptr id 0,.int .u64 n] H Q:=by refine S.P3 hT ?_;unfold S.f146;refine jK ak hT h KR.refl λj H1 k1 h1 b1 p=>?_;refine ou ak hT h1 hb λH2 k2 d=>?_;have b2:=b1.aI k2;have e:=k1.trans k2;simp only[W,YO,D];refine b2.st d e (by decide) One.int λq f g b3 _=>?_;refine b3.st g f (by decide) One.int λr i l a _=>?_;rw[a.all];simp only[D];refine jt ak hT l (by have:=hb.A;show c.A.length≤_;omega) ⟨1,c.bj,-1,-1,-1,-1,n,0,0,0,0,0,0⟩ λm b o=>?_;rw[(a.aI b).ld (k:=1) rfl];simp only[D];exact hQ _ _ m (i.trans b) o (GE.BK (i6 (by decide) (by decide) (ju (aaP _)) ch ch ch ch (.inl (by decide)) (.inl (by decide))) (kK (.inl (by decide)))) (ju (aaP _))
theorem sD(h:bB H id vars wh F c)(hb:BD c (w+1))(op:Int)(ha:dh c.bj a)(f:dh c.bj b)(hQ:EX id vars wh F H c 1 [] Q):ai C 147 [.ptr id 0,.int .i64 op,.int .i64 a,.int .i64 b] H Q:=by refine S.P4 hT ?_;unfold S.f147;refine jK ak hT h KR.refl λj H1 k1 h1 b1 y=>?_;refine ou ak hT h1 hb λH2 k2 g=>?_;have b2:=b1.aI k2;have i:=k1.trans k2;simp only[W,YO,D];refine b2.st g i (by decide) One.int λz l m b3 _=>?_;refine b3.st m l (by decide) One.int λB n o p _=>?_;refine p.st o n (by decide) One.int λE q r s _=>?_;refine s.st r q (by decide) One.int λG t u d _=>?_;rw[d.all];simp only[D];refine jt ak hT u (by have:=hb.A;show c.A.length≤_;omega) ⟨3,c.bj,-1,a,b,-1,0,op,0,0,0,0,0⟩ λv e x=>?_;rw[(d.aI e).ld (k:=1) rfl];simp only[D];exact hQ _ _ v (t.trans e) x (GE.BK (i6 (by decide) (by decide) (ju (aaP _)) ch (ha.mono (YH _)) (f.mono (YH _)) ch (.inl (by decide)) (.inl (by decide))) (kK (.inl (by decide)))) (ju (aaP _))
theorem mm(h:bB H id vars wh F c)(hb:BD c (w+2))(op n:Int)(ha:dh c.bj a)(hQ:EX id vars wh F H c 2 [] Q):ai C 155 [.ptr id 0,.int .i64 op,.int .i64 a,.int .u64 n] H Q:=by
 refine S.Qc hT ?_;unfold S.f155;have k1:S.zV (ai C) (.ptr id 0) (.int .i64 op) (.int .i64 a) (.int .u64 n) Q [] H:=by unfold S.zV;refine BL ak hT (w:=w+1) h hb n λr c1 H1 k1 h1 g1 r1=>?_;refine sD ak hT (w:=w) h1 (g1.bd (m:=w+1) (hb.mono (by omega))) op (ha.mono g1.r0) r1 λd c2 H2 k2 e g2 d=>?_;exact hQ _ _ _ (k1.trans k2) e (g1.trans g2) d
 have k2:∀b:Bool,S.nL (ai C) (.ptr id 0) (.int .i64 op) (.int .i64 a) (.int .u64 n) Q [.bool b] H:=λb=>by unfold S.nL;simp only[aE,aB,aR];exact aF (λ_=>hQ _ _ _ KR.refl h ((GE.refl c).mono (Yz _) rfl) ha) (λ_=>k1)
 simp only[cJ,D,cD,cv,aR]
 repeat' first|exact k2 _|apply aF<;>intro _
theorem sG(h:bB H id vars wh F c)(hb:BD c (w+2)){s:bp}{b al:Int}(ha:dh c.bj b)(hQ:EX id vars wh F H c 2 [] Q):ai C 153 [.ptr id 0,.agg (s.cells++[.int .i64 b,.int .i64 al])] H Q:=by
 refine S.Qa hT ?_;unfold S.f153;have a:aK H false 8 (.agg (s.cells++[.int .i64 b,.int .i64 al]))=some (.af (s.cells++[.int .i64 b,.int .i64 al]),H):=rfl;have d:O H 1 false (.af [.int .i64 b,.int .i64 al])=some (.int .i64 b):=rfl;have l0:O H 1 false (.af (s.cells++[.int .i64 b,.int .i64 al]))=some (.int .i64 s.at_):=rfl;rw[a];simp only[aP,show W 6 (.af (s.cells++[.int .i64 b,.int .i64 al]))=some (.af [.int .i64 b,.int .i64 al])from rfl,show W 0 (.af (s.cells++[.int .i64 b,.int .i64 al]))=some (.af (s.cells++[.int .i64 b,.int .i64 al]))from rfl,D,d,l0,cJ,aB,j3];apply aF<;>intro _
 ·exact BL ak hT (w:=w+1) h hb _ λr c1 H1 k1 h1 g1 r1=>hQ _ _ _ k1 h1 (g1.mono (by decide) rfl) r1
 ·exact mm ak hT h hb _ _ ha hQ
theorem BM(hn:0≤n)(hQ:∀v,Q (.int .u64 v) H):ai C 156 [.int .i64 n] H Q:=by refine S.Qd hT ?_;unfold S.f156;simp only[f_,D,aB];refine aF (λ_=>hQ _) (λ_=>?_);rw[Hj _ _ _ _ hn];simp only[D,fZ];exact hQ _
theorem xt(h:bB H id vars wh F c)(hb:BD c (w+1))(ha:dh c.bj a)(d:dh c.bj b)(hQ:EU id vars wh F H c 1 [] Q):ai C 102 [.ptr id 0,.int .i64 a,.int .i64 b] H Q:=by
 refine S.PA hT ?_;unfold S.f102;refine jK ak hT h KR.refl λj H1 e h1 b1 p=>?_;simp only[W,YO,D];refine b1.st h1 e (by decide) One.int λq f g b3 _=>?_;refine b3.st g f (by decide) One.int λr i k l _=>?_;rw[l.all];simp only[D];exact jt ak hT k (by have:=hb.A;omega) ⟨2,a,-1,b,-1,-1,0,0,0,0,0,0,0⟩ λm n o=>hQ _ m (i.trans n) o (GE.add (i6 (by decide) (by decide) ha ch d ch ch (.inl (by decide)) (.inl (by decide))) (kK (.inl (by decide))))
theorem xu(h:bB H id vars wh F c)(hb:BD c (w+1))(t:Int)(hQ:∀H',KR id H H'→bB H' id vars wh F (c.add ⟨14,-1,-1,-1,-1,-1,0,0,0,0,t,0,0⟩)→Q (.ar []) H'):ai C 160 [.ptr id 0,.int .i64 t] H Q:=by refine S.Qh hT ?_;unfold S.f160;refine jK ak hT h KR.refl λj H1 a h1 b1 i=>?_;simp only[W,YO,D];refine b1.st h1 a (by decide) One.int λk b d b3 _=>?_;rw[b3.all];simp only[D];exact jt ak hT d (by have:=hb.A;omega) ⟨14,-1,-1,-1,-1,-1,0,0,0,0,t,0,0⟩ λe f g=>hQ e (b.trans f) g
theorem xv(h:bB H id vars wh F c)(hb:BD c (w+1))(t:Int)(k:dh c.bj r)(hQ:∀o H',KR id H H'→o.en=t→(o.kind=15∨o.kind=16)→iD c.bj c.sn o→bB H' id vars wh F (c.add o)→Q (.ar []) H'):ai C 159 [.ptr id 0,.int .i64 t,.int .i64 r] H Q:=by
 refine S.Qg hT ?_;unfold S.f159;refine jK ak hT h KR.refl λj H1 i h1 b1 u=>?_;simp only[W,YO,D,dZ,aB,aR];apply aF<;>intro _
 · refine b1.st h1 i (by decide) One.int λv l m b3 _=>?_;refine b3.st m l (by decide) One.int λx n p q _=>?_;unfold S.vJ;simp only[W,YO,D];refine q.st p n (by decide) One.int λs a b d _=>?_;rw[d.all];simp only[D];exact jt ak hT b (by have:=hb.A;omega) ⟨16,-1,-1,r,-1,-1,0,0,0,0,t,0,0⟩ λe f g=>hQ _ e (a.trans f) rfl (.inr rfl) (i6 (by decide) (by decide) ch ch k ch ch (.inr (.inl (by decide))) (.inr (.inl (by decide)))) g
 · unfold S.vJ;simp only[W,YO,D];refine b1.st h1 i (by decide) One.int λs a b d _=>?_;rw[d.all];simp only[D];exact jt ak hT b (by have:=hb.A;omega) ⟨15,-1,-1,-1,-1,-1,0,0,0,0,t,0,0⟩ λe f g=>hQ _ e (a.trans f) rfl (.inl rfl) (i6 (by decide) (by decide) ch ch ch ch ch (.inr (.inl (by decide))) (.inr (.inl (by decide)))) g
theorem Jy(h:bB H id vars wh F c)(hb:BD c (w+1))(k o:Int){a1 b:I}(m:bq)(q:m.cells = .int .i64 k :: .int .i64 o :: .int .i64 c.V::[a1,b])(r:a1.scalar=true)(fH:b.scalar=true)(hQ:∀H' c',KR id H H'→bB H' id vars wh F c'→GE c c' 1 [m]→c'.bj=c.bj→c'.sn=c.sn+1→Q (.int .i64 ((c.sn+1:Nat):Int)) H'):ai C 108 [.ptr id 0,.int .i64 k,.int .i64 o,.agg [a1,b]] H Q:=by
 have hs:=hb.s;refine S.PG hT ?_;unfold S.f108;obtain⟨xo,xs,a,h1,p,u⟩:=h.x;have v:O H 1 false (.ptr id 5)=some xs:=by rw[a.load];rfl
 have ha:O H 2 true (.af [a1,b])=some (.agg [a1,b]):=rfl;rw[show aK H false 2 (.agg [a1,b])=some (.af [a1,b],H)from rfl];simp only[aP,aX,W,YO,D,h.ln,v,ha];rw[show bm [.int .i64 0,.int .i64 0,.int .i64 0,.str [],.aq .nil 0 []] [(0,1,.int .i64 k),(1,1,.int .i64 o),(2,1,.int .i64 c.V),(3,2,.agg [a1,b])]=some (.agg (.int .i64 k :: .int .i64 o :: .int .i64 c.V::[a1,b]))from rfl];simp only[D];rw[show dk H false 5 1 [.int .i64 0,.int .i64 0,.int .i64 0,.str [],.aq .nil 0 []] [(0,5,.agg (.int .i64 k :: .int .i64 o :: .int .i64 c.V::[a1,b]))]=some (.aq .full 1 (.int .i64 k :: .int .i64 o :: .int .i64 c.V::[a1,b]),H)from rfl];simp only[aP];refine p.IK (by have:=a.1;omega) (m:=1) (news:= .int .i64 k :: .int .i64 o :: .int .i64 c.V::[a1,b]) rfl rfl (by show(true&&(true&&(true&&(a1.scalar&&(b.scalar&&true)))))=true;rw[r,fH];rfl) (by decide) (by omega) (by omega) λz l8 hn hk=>?_;have g:∀i ds,At H i (.row ds)→At z i (.row ds):=λi ds hi=>hk i _ hi λl cs e=>by
  subst e;obtain⟨tk,e1,_,f⟩:=p;cases e1;rcases f with⟨e,_⟩|e|⟨t,e,_,f⟩
  ·cases e
  ·cases e
  ·cases e;exact absurd (f.2.symm.trans hi.2) (by intro e;cases e)
 have a3:=g _ _ a;rw[a3.st1 (by show 5<8;decide) ⟨rfl,rfl,rfl⟩];simp only[D];have a4:=a3.set (.row ((kf vars wh xo xs F c).set 5 (.aq (.own H.n) (c.sn+1) (c.sc++(.int .i64 k :: .int .i64 o :: .int .i64 c.V::[a1,b])))));rw[a4.load,show bT ((kf vars wh xo xs F c).set 5 (.aq (.own H.n) (c.sn+1) (c.sc++(.int .i64 k :: .int .i64 o :: .int .i64 c.V::[a1,b])))) 5 1 false=some (.aq (.own H.n) (c.sn+1) (c.sc++(.int .i64 k :: .int .i64 o :: .int .i64 c.V::[a1,b])))from rfl];simp only[D,show ∀(tk:Tok)(n:Nat)(cs:List I),bo false (.aq tk n cs)=some (.int .i64 n)from λ_ _ _=>rfl];refine hQ _ {c with sn:=c.sn+1,sc:=c.sc++(.int .i64 k :: .int .i64 o :: .int .i64 c.V::[a1,b])} (KR.trans ⟨acB hn,λi ds _=>g i ds⟩ (KR.set _)) ⟨⟨xo,_,a4,?_,l8.frame λt _ _ h=>h.bZ (h.ne a3 (by intro e;cases e)) _,λt l c1 e l2 c2 f=>?_⟩,(h.l.aI λi cs _=>g i cs).set h.sC _,h.ld,h.lo⟩
  ⟨⟨[],(abQ _).symm,Yz _,λ_ A=>by cases A⟩,sl _,YH _,rfl,by rw[acT,q],sl _,rfl,rfl,rfl⟩ rfl rfl
 ·exact h1.Jt λt l d x y e ht=>(hk t _ ht λl1 c1 e1=>u t l d e _ _ e1).bZ (ht.ne a (by intro e;cases e)) _
 · cases f;obtain⟨tk,e1,_,j⟩:=h1;rw[e]at e1;cases e1;rcases j with⟨e,_⟩|e|⟨t,e,_,j⟩
   ·cases e
   ·cases e
   ·cases e;have:=j.1;omega
theorem sH(h:bB H id vars wh F c)(hl:c.V=l)(hb:BD c (w+1))(k o:Int)(a:k≠7)(x:aM)(hQ:∀H' c',KR id H H'→bB H' id vars wh F c'→GE c c' 1 [⟨k,o,l,x⟩]→c'.bj=c.bj→c'.sn=c.sn+1→Q (.int .i64 ((c.sn+1:Nat):Int)) H'):ai C 108 [.ptr id 0,.int .i64 k,.int .i64 o,.agg x.cells] H Q:=by rw[aM.bF];exact Jy ak hT h hb k o ⟨k,o,l,x⟩ (by unfold bq.cells;rw[ae a,aM.bF,hl]) rfl rfl hQ
theorem xw(h:bB H id vars wh F c)(hb:BD c w){E:List UInt8}(hn:E∈c.L.map Prod.fst)(hQ:∀r:Int,dh c.bj r→Q (.int .i64 r) H):ai C 103 [.ptr id 0,.str E] H Q:=by
 have y:=hb.L;refine S.PB hT ?_;unfold S.f103;have m:aK H false 1 (.str E)=some (.af [.str E],H):=rfl;simp only[m,aP,aX,W,YO,h.lcs,D];refine S.P7 hT ?_;unfold S.f150;simp only[h.l.len,D];have main:∀(r:List (List UInt8×Nat)) (k:Nat),c.L.drop k=r→E∈r.map Prod.fst →
   aA (S.zU (ai C) F (.fn 151 [.af [.str E]]) (.int .i64 c.L.length) (λn a=>Do (O a 1 false (.ptr id 7)) λo=>Do (aO none 2 o n) λp=>Do (W 1 p) λq=>Do (O a 1 false q) λs=>Q s a)) ([.int .i64 k],H):=by
  intro r;induction r with
  |nil=>intro k d he;simp at he
  | cons l r t=>
   intro k d he;obtain⟨hk,f,u⟩:=ed d;obtain⟨j,cs,z,g,i,v,A⟩:=h.l.addr hk;have b:=Jx c.L k l f;rw[←v,List.drop_take,acz,acx (by omega)]at b;refine aA.step ?_;simp only[S.zU,aE,bD,D,aB];rw[dU];simp only[i,D,g.load];rw[show bT cs (k*2) 2 true=some (.agg (jq l)) by unfold bT;rw[cY,aa rfl,b]];simp only[D];refine⟨151,[.af [.str E]],rfl,?_⟩;rw[qI rfl,qJ rfl];show ai C 151 [.agg (jq l),.af [.str E]] H _;refine S.P9 hT ?_;unfold S.f151;have x:aK H false 2 (.agg (jq l))=some (.af (jq l),H):=by unfold aK;rw[aa ⟨rfl,rfl⟩];rfl
   have l0:O H 1 false (.af (acE 0 (jq l)))=some (.str l.1):=rfl;have l1:O H 1 false (.af [.str E])=some (.str E):=rfl;simp only[x,aP,W,D,l0,l1,jj,aB];apply aF<;>intro e
   · simp only[h.lcs,D,i,W,g.load];rw [show bT cs (k*2+1) 1 false=some (.int .i64 (l.2:Nat)) by
       have:cs[k*2+1]?=some (.int .i64 (l.2:Nat)):=by rw[←X4,←List.getElem?_take_of_lt (show 1<2 by decide),b];rfl
       unfold bT;rw[cY,el,this]]
     simp only[D];exact hQ _ (ju (h.lo l (aaN f)))
   · simp only[b4,D];rw[bI,cN];refine t (k+1) u ?_;rcases aan.1 he with he|he
     ·exact absurd (by simp[←he]) e
     ·exact he
 exact main c.L 0 rfl hn
end
end Rb

namespace Rb
open Go
def P2(r:Int):Prop:=r=1∨r=2∨r=4∨r=8∨r=16
def P8(r:Int):Prop:=r=1∨r=2∨r=4∨r=8
theorem P2.pos{r:Int}(h:P2 r):1≤r∧r≤16:=by unfold P2 at h;omega
theorem P2.half{r:Int}(h:P2 r)(a:1<r):P2 (r/2)∧r/2<r∧ab .quo (.int .i64 r) (.int .i64 2)=some (.int .i64 (r/2)):=by
 rcases h with rfl|rfl|rfl|rfl|rfl
 ·omega
 all_goals exact⟨by unfold P2;omega,by omega,by rw[mb _ _ _ (by decide)];rfl⟩
theorem P2.ind{P:Int→Prop}(h:∀r,P2 r→(1<r→P (r/2))→P r):∀r,P2 r→P r:=by have a:=h 1 (.inl rfl) (λe=>absurd e (by decide));have b:=h 2 (.inr (.inl rfl)) (λ_=>a);have c:=h 4 (.inr (.inr (.inl rfl))) (λ_=>b);have d:=h 8 (.inr (.inr (.inr (.inl rfl)))) (λ_=>c);have g:=h 16 (.inr (.inr (.inr (.inr rfl)))) (λ_=>d);intro r f;rcases f with rfl|rfl|rfl|rfl|rfl<;>assumption
def eo(p:Int×Int):List I:=[.int .i64 p.1,.int .i64 p.2]
def Jz(x:I)(l:List (Int×Int)):Prop:=∃tk,x = .aq tk l.length (l.flatMap eo)
section
variable{C:Ctx}(ak:bP C)(hT:Cl (ai C) S.bu){H:Z}{Q:ad}
include ak hT
theorem BN{n m:Int}(c:P2 m)(hQ:∀r,P2 r→r≤m→Q (.int .i64 r) H):ai C 197 [.int .i64 n,.int .i64 m] H Q:=by
 refine S.Qv hT ?_;unfold S.f197;have main:∀r,P2 r→(r≤m→aA (S.vZ (ai C) (.int .i64 n) Q) ([.int .i64 r],H)):=by
  refine P2.ind λr a d hle=>aA.step ?_;simp only[S.vZ,aE,eu,D,cD,aR];have k2:∀b:Bool,(b=true→1<r)→S.vY (ai C) ([.int .i64 r],H) (aA (S.vZ (ai C) (.int .i64 n) Q)) Q [.bool b] H:=λb hb=>by unfold S.vY;simp only[aE,aB,aR];refine aF (λe=>?_) (λ_=>hQ r a hle);unfold S.GW;obtain⟨_,g,f⟩:=a.half (hb e);simp only[aE,f,D];exact d (hb e) (by omega)
  refine aF (λe=>?_) (λe=>k2 false (λe=>by cases e));rw[wo _ _ _ (by have:=a.pos;omega)];simp only[D,dZ];exact k2 _ λ_=>by simpa using e
 exact main m c (ach _)
theorem TG{c len:Int}(hl:len≤16)(hQ:∀l x H',Z.Ext H H'→Jz x l→(∀p∈l,P8 p.2)→l.length≤16→Q x H'):ai C 216 [.agg [.int .i64 c,.int .i64 len]] H Q:=by
 refine S.Qz hT ?_;unfold S.f216;have z:∀H',Z.Ext H H'→Q (.aq .nil 0 []) H':=λH' E=>hQ [] _ H' E ⟨.nil,rfl⟩ (λp hp=>by cases hp) (Yz _);have hb:aK H true 2 (.agg [.int .i64 c,.int .i64 len])=some (.ptr H.n 0,H.push (.row [.int .i64 c,.int .i64 len])):=rfl;rw[hb];simp only[aP];have k:=Z.Ext.push H (.row [.int .i64 c,.int .i64 len]);have r1:=At.new H (.row [.int .i64 c,.int .i64 len]);rw[r1.all (n:=2) rfl];simp only[D];generalize H.push (.row [.int .i64 c,.int .i64 len])=H1 at *;have l0:O H1 1 false (.ptr H.n 0)=some (.int .i64 c):=by rw[r1.load];rfl
 have l1:O H1 1 false (.ptr H.n 1)=some (.int .i64 len):=by rw[r1.load];rfl
 have loop : ∀(n:Nat)(a len:Int)(x:I)(l:List (Int×Int)) (H2:Z),len.toNat=n→Z.Ext H H2→At H2 H.n (.row [.int .i64 a,.int .i64 len])→len≤16→cC H.n H2 2 x l.length (l.flatMap eo)→(∀p∈l,P8 p.2)→(l.length:Int)+len.toNat≤16→aA (S.p1 (ai C) (.ptr H.n 0) Q) ([x],H2):=by
  intro n;induction n using Nat.strongRecOn with
  | _ n A =>
   intro a len x l H2 hn f q ae u hp hc;have m0:O H2 1 false (.ptr H.n 0)=some (.int .i64 a):=by rw[q.load];rfl
   have m1:O H2 1 false (.ptr H.n 1)=some (.int .i64 len):=by rw[q.load];rfl
   refine aA.step ?_;simp only[S.p1,W,YO,m1,D,eu,aB,aE];apply aF<;>intro e
   · have ag:0<len:=by simpa using e
     have inner:∀r,P2 r→(r≤8→aA (S.we (ai C) (.ptr H.n 0) ([x],H2) (aA (S.p1 (ai C) (.ptr H.n 0) Q)) Q) ([.int .i64 r],H2)):=by
      refine P2.ind λr d B hle=>aA.step ?_;simp only[S.we,W,YO,m0,m1,D,eu,cv,aR,aE];have v:∀b:Bool,(b=true→1<r)→(b=false→r≤len)→S.wc (ai C) (.ptr H.n 0) ([x],H2) (aA (S.p1 (ai C) (.ptr H.n 0) Q)) ([.int .i64 r],H2) (aA (S.we (ai C) (.ptr H.n 0) ([x],H2) (aA (S.p1 (ai C) (.ptr H.n 0) Q)) Q)) Q [.bool b] H2:=λb hb s=>by
       unfold S.wc;simp only[aE,aB,aR];apply aF<;>intro e
       · unfold S.G3;obtain⟨_,ah,F⟩:=d.half (hb e);simp only[aE,F,D];exact B (hb e) (by omega)
       · have aj:=s (by simpa using e);have G:P8 r:=by unfold P2 at d;unfold P8;omega
         unfold S.G4;simp only[aE,W,YO,m0,D];rw[show bm [.int .i64 0,.int .i64 0] [(0,1,.int .i64 a),(1,1,.int .i64 r)]=some (.agg (eo (a,r)))from rfl];simp only[D];rw[show dk H2 false 2 1 [.int .i64 0,.int .i64 0] [(0,2,.agg (eo (a,r)))]=some (.aq .full 1 (eo (a,r)),H2)from rfl];simp only[aP];refine u.app f.1 (m:=1) (news:=eo (a,r)) rfl rfl rfl (by decide) (by omega) (by omega) λJ g K lf=>?_;have j:=lf.row q;have L:Z.Ext H g:=⟨xl f.1 lf.1,λi hi=>((lf.2 i (H2.o i) ⟨AH hi f.1,rfl⟩ (.inl hi)).2).trans (f.2 i hi)⟩
         have m3:O g 1 false (.ptr H.n 0)=some (.int .i64 a):=by rw[j.load];rfl
         simp only[m3,D,b4];rw[j.st1 (by show 0<2;decide) One.int];have r4:=j.set (.row ([.int .i64 a,.int .i64 len].set 0 (.int .i64 (Zb .i64 (a+r)))));have M:=L.set (sl _) (.row ([.int .i64 a,.int .i64 len].set 0 (.int .i64 (Zb .i64 (a+r)))));have P:=K.frame (H':=g.set H.n (.row ([.int .i64 a,.int .i64 len].set 0 (.int .i64 (Zb .i64 (a+r)))))) (λt _ _ h=>h.bZ (h.ne j (by intro e;cases e)) _);simp only[D];generalize g.set H.n (.row ([.int .i64 a,.int .i64 len].set 0 (.int .i64 (Zb .i64 (a+r)))))=R at *;have m4:O R 1 false (.ptr H.n 1)=some (.int .i64 len):=by rw[r4.load];rfl
         simp only[m4,D,fZ];rw[wrap_i64 (n:=len-r) (by have:=d.pos;omega) (by have:=d.pos;omega),r4.st1 (by show 1<2;decide) One.int];simp only[D];refine A (len-r).toNat (by have:=d.pos;omega) (Zb .i64 (a+r)) (len-r) J (l++[(a,r)]) _ rfl (M.set (sl _) _) (r4.set _) (by have:=d.pos;omega) ?_ (λp T=>?_) (by have:=d.pos;rw[abI,acq];omega)
         · rw[abI,acH,acT];exact P.frame λt _ _ h=>h.bZ (h.ne r4 (by intro e;cases e)) _
         · rcases aag.1 T with h|h
           ·exact hp p h
           ·rw[acR.1 h];exact G
      apply iz<;>intro e
      · have U:r≤len:=by simpa using e
        rw[wo _ _ _ (by have:=d.pos;omega)];simp only[D,dZ];refine v _ (λe1=>?_) (λ_=>U);have:=d.pos;by_cases h1:r=1
        ·subst h1;simp at e1
        ·omega
      ·exact v true (λ_=>by have:len<r:=(by simpa using e);omega) (λe=>by cases e)
     exact inner 8 (.inr (.inr (.inr (.inl rfl)))) (ach _)
   · obtain⟨tk,V,_⟩:=u;exact hQ l x H2 f ⟨tk,V⟩ hp (by omega)
 have X:S.Ag (ai C) (.ptr H.n 0) Q [] H1:=by
  unfold S.Ag;by_cases ak:0≤len
  ·exact loop len.toNat c len _ [] H1 rfl k r1 hl (cC.nil _ _ _) (λp hp=>by cases hp) (by simp;omega)
  ·exact loop len.toNat c len _ [] H1 rfl k r1 hl (cC.nil _ _ _) (λp hp=>by cases hp) (by simp;omega)
 have w:∀b:Bool,S.wg (ai C) (.ptr H.n 0) Q [.bool b] H1:=λb=>by unfold S.wg;simp only[aE,aB,aR];exact aF (λ_=>z H1 k) (λ_=>X)
 have y:∀b:Bool,S.p2 (ai C) (.ptr H.n 0) Q [.bool b] H1:=λb=>by unfold S.p2;simp only[aE,cv,aR,W,YO,l0,l1,D,b4,eu];exact aF (λ_=>w _) (λ_=>w _)
 have snd:∀b:Bool,Do (cI .not (.bool b)) λY=>aL Y false (Do (W 1 (.ptr H.n 0)) λaa=>Do (O H1 1 false aa) λac=>Do (ab .gtr ac (.int .i64 64)) λad=>N (S.p2 (ai C) (.ptr H.n 0) Q) [ad] H1) (N (S.p2 (ai C) (.ptr H.n 0) Q) [.bool true] H1) False:=λb=>by simp only[dS,D,cv,W,YO,l1,eu,aR];exact aF (λ_=>y _) (λ_=>y _)
 refine S.G8 hT ?_;unfold S.f94;have s:aK H1 false 2 (.agg [.int .i64 c,.int .i64 len])=some (.af [.int .i64 c,.int .i64 len],H1):=rfl;have s0:O H1 1 false (.af [.int .i64 c,.int .i64 len])=some (.int .i64 c):=rfl;have s1:O H1 1 false (.af [.int .i64 len])=some (.int .i64 len):=rfl;rw[s];simp only[aP,show W 0 (.af [.int .i64 c,.int .i64 len])=some (.af [.int .i64 c,.int .i64 len])from rfl,show W 1 (.af [.int .i64 c,.int .i64 len])=some (.af [.int .i64 len])from rfl,D,s0,s1,f_,ji,cD,aR,S.vf,S.ve,aE]
 repeat' first|exact snd _|apply aF<;>intro _
end
end Rb
