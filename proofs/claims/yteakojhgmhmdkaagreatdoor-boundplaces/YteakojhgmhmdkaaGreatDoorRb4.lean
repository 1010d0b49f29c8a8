/- A part of the proof (part 4): see the last text. -/
import Derived.Test.YteakojhgmhmdkaaGreatDoorRb3
set_option linter.unusedVariables false
set_option linter.unusedSimpArgs false
set_option linter.unusedSectionVars false
open Bool renaming and_eq_false_iff→ach, and_eq_true→X1, and_true→ack, eq_iff_iff→aaf, false_eq_true→ZP, false_or→aac, not_eq_true'→Z4, not_eq_true→abQ, not_true→abW, or_eq_false_iff→aak, or_eq_true→X2, true_and→abb
open Classical renaming byContradiction→acd
open Decidable renaming not_not→abz
open Go.IntKind renaming wrap→Y6
open Int renaming add_mul_ediv_left→acb, ediv_le_self→ab9, ediv_nonneg→ab8, emod_add_mul_ediv→ab2, emod_lt_of_pos→ab5, emod_nonneg→ab3, le_refl→ab_, lt_trichotomy→acG, mul_add→ace, mul_comm→ab6, mul_le_mul→acg, mul_nonneg→acf, ne_of_gt→ab4, tdiv_eq_ediv_of_nonneg→ab7, tdiv→acw, tmod_eq_emod_of_nonneg→aca, toNat_natCast→Y7
open List renaming all_cons→aaG, all_nil→acj, any_eq_false→acv, any_eq_true→aav, append_assoc→acC, append_nil→abK, cons_append→ZS, drop_eq_nil_of_le→acI, drop_zero→abt, drop→acy, eq_nil_of_length_eq_zero→acH, ext_getElem?→acz, findIdx?→abI, flatMap_append→acB, flatMap_cons→abe, flatMap_singleton→acN, foldl_cons→Yv, getElem?_append_left→Zy, getElem?_append_right→Zz, getElem?_cons_succ→abk, getElem?_cons_zero→abj, getElem?_drop→XY, getElem?_eq_getElem→YO, getElem?_eq_none→aab, getElem?_eq_some_iff→XV, getElem?_map→YN, getElem?_set_self→YQ, getElem?_set→Ym, getElem?_take→XX, length_append→abC, length_cons→abD, length_drop→abM, length_eq_zero_iff→Zi, length_replicate→acK, length_set→aag, length_singleton→aci, length_take→abX, length→acF, map_append→acs, map_cons→Zj, map_take→acq, mem_append→aaa, mem_cons_of_mem→aai, mem_cons_self→aaj, mem_cons→aah, mem_map→aay, mem_of_getElem?→aaH, mem_singleton→acL, nil_append→acx, nodup_cons→acD, range'→ZJ, replicate_succ→Y0, replicate→XS, sizeOf_lt_of_mem→abP, take_add_one→abL, take_append_drop→acJ, take_append_of_le_length→abF, take_length→abu, take_of_length_le→abG, take_set_of_le→acn, take_take→acr
open List.Sublist renaming nodup→acE
open Nat renaming add_mul→Yu, add_zero→Yx, le_of_lt→acu, le_refl→sl, le_succ→YB, le_trans→xl, lt_irrefl→acM, lt_of_lt_of_le→AH, lt_succ_self→aaJ, min_eq_left→acp, mul_le_mul_right→Za, mul_one→acm, ne_of_lt→YG, one_mul→abA, sub_self→acA, sub_zero→aaQ, zero_add→YI, zero_le→Yt, zero_mul→abo
open Ne renaming symm→YL
open Option renaming map_none→aco, some→Yb
namespace Rb
open Go
structure Bk where
 l:List (Int×Int)
 full:Bool
def cy:List (Int×Int)→List (Int×Int)
 |[]=>[]
 |[x]=>[x]
 |x::y::r=>if x=y then cy (y::r)else x::cy (y::r)
def Bk.tidy(b:Bk):Bk:=⟨cy (ef b.l),b.full||decide ((cy (ef b.l)).length>4096)⟩
def Bk.put(b:Bk)(s:Int×Int):Bk:=if b.full then b else⟨b.l++[s],false⟩
def Bk.add(b:Bk)(s:Int×Int):Bk:=if(b.put s).l.length>8192 then(b.put s).tidy else b.put s
def kf(step:Nat→Bk→Bk):Nat→Nat→Bk→Bk
 |0,_,b=>b
 |n+1,i,b=>if b.full then b else kf step n (i+1) (step i b)
def iV(a:Int×Int)(b:Bk):Bk:=if a.2>0 then b.add a else b
mutual
def ft:U→Int→Bk→Bk
 | .mk kind size packed aE ba aU,at_,b=>
  if kind=1∨kind=2 then b.add (at_,size)
  else if kind=5 then(if(fc aU).1.1>0 then kf (λi b=>n5 aU (V (at_+V (i*(fc aU).1.1))) b) ba.toNat 0 b else b)
  else let r:=eO kind at_ aE (cq (.mk kind size packed aE ba aU)) (0,0) b
   iV r.1 r.2
def n5:List U→Int→Bk→Bk
 |[],_,b=>b
 |t::_,at_,b=>ft t at_ b
def p9:aw→Int→Bk→Bk
 | .mk E type bits aM,at_,b=>ft type at_ b
def eO(kind at_:Int):List aw→List be→Int×Int→Bk→(Int×Int)×Bk
 |[],_,run,b=>(run,b)
 |_::_,[],run,b=>(run,b)
 | f::r,s::ss,run,b=>
  let e:=f.bits=false∨f.aM=0∨kind=4;let a:=if e then(0,0)else run
  let b1:=if e then iV run b else b
  if f.bits=false then eO kind at_ r ss a (p9 f (V (s.at_+at_)) b1)
  else if a.2>0 then eO kind at_ r ss (a.1,V (V (V (s.at_+at_)+s.len)-a.1)) b1
  else if f.aM>0 then eO kind at_ r ss (V (s.at_+at_),s.len) b1
  else eO kind at_ r ss a b1
end
theorem R6(f:aw)(a:Int)(b:Bk):p9 f a b=ft f.type a b:=by cases f;rfl
def eD(t:U):List (Int×Int)×Int:=
 if(aX t).2≠0 then([],(aX t).2)
 else if((ft t 0 ⟨[],false⟩).tidy).full then([],12)else(((ft t 0 ⟨[],false⟩).tidy).l,0)
end Rb

namespace Rb
open Go
theorem AU(s:Int×Int):∀l:List (Int×Int),s∈cy l↔s∈l
 |[]=>by rw[cy]
 |[x]=>by rw[cy]
 | x :: y::r=>by
  rw[cy];split
  · rename_i h;subst h;rw[AU s (x::r)];simp
  ·rw[aah,AU s (y::r),←aah]
theorem R7(s:Int×Int)(l:List (Int×Int)):s∈ef l↔s∈l:=(List.mergeSort_perm l _).mem_iff
def Has(b c:Bk)(n:List (Int×Int)):Prop:=c.full=false→b.full=false∧∀s,s∈c.l↔s∈b.l∨s∈n
theorem Has.refl(b:Bk):Has b b []:=λh=>⟨h,λs=>by simp⟩
theorem Has.trans{b c d:Bk}{n m:List (Int×Int)}(h:Has b c n)(k:Has c d m):Has b d (n++m):=λa=>by obtain⟨k1,k2⟩:=k a;obtain⟨h1,e⟩:=h k1;exact⟨h1,λs=>by rw[k2,e,aaa,or_assoc]⟩
theorem Bk.H9(b:Bk):Has b b.tidy []:=λh=>by have h1:(b.full||decide ((cy (ef b.l)).length>4096))=false:=h;rw[aak]at h1;exact⟨h1.1,λs=>by show s∈cy (ef b.l)↔_;rw[AU,R7];simp⟩
theorem Bk.H_(b:Bk)(s:Int×Int):Has b (b.put s) [s]:=λh=>by
 unfold Bk.put at h ⊢;by_cases hb:b.full=true
 ·rw[aa hb,hb]at h;cases h
 · rw[ab hb];exact⟨by simpa using hb,λx=>by show x∈b.l++[s]↔_;rw[aaa]⟩
theorem Bk.Ia(b:Bk)(s:Int×Int):Has b (b.add s) [s]:=by
 unfold Bk.add;split
 ·exact(b.H_ s).trans (Bk.H9 _)
 ·exact b.H_ s
def fw(a:Int×Int):List (Int×Int):=if a.2>0 then [a]else []
theorem Ib(a:Int×Int)(b:Bk):Has b (iV a b) (fw a):=by
 unfold iV fw;split
 ·exact b.Ia a
 ·exact Has.refl b
theorem Ic{step:Nat→Bk→Bk}{g:Nat→List (Int×Int)}(hs:∀i b,Has b (step i b) (g i)):∀(n i:Nat)(b:Bk),Has b (kf step n i b) ((ZJ i n).flatMap g)
 |0,i,b=>Has.refl b
 | n + 1,i,b=>by
  rw[kf,List.range'_succ,abe];by_cases hb:b.full=true
  · rw[aa hb];intro h;rw[hb]at h;cases h
  · rw[ab hb];exact(hs i b).trans (Ic hs n (i+1) (step i b))
mutual
def aG:U→Int→List (Int×Int)
 | .mk kind size packed aE ba aU,a=>
  if kind=1∨kind=2 then [(a,size)]
  else if kind=5 then(if(fc aU).1.1>0 then(ZJ 0 ba.toNat).flatMap λi:Nat=>n_ aU (V (a+V ((i:Int)*(fc aU).1.1)))else [])
  else(ew kind a aE (cq (.mk kind size packed aE ba aU)) (0,0)).2++fw (ew kind a aE (cq (.mk kind size packed aE ba aU)) (0,0)).1
def n_:List U→Int→List (Int×Int)
 |[],_=>[]
 |t::_,a=>aG t a
def wS:aw→Int→List (Int×Int)
 | .mk E type bits aM,a=>aG type a
def ew(kind a:Int):List aw→List be→Int×Int→(Int×Int)×List (Int×Int)
 |[],_,run=>(run,[])
 |_::_,[],run=>(run,[])
 | f::r,s::ss,run=>
  let e:=f.bits=false∨f.aM=0∨kind=4;let b:=if e then(0,0)else run
  let l1:=if e then fw run else []
  if f.bits=false then((ew kind a r ss b).1,l1++(wS f (V (s.at_+a))++(ew kind a r ss b).2))
  else if b.2>0 then((ew kind a r ss (b.1,V (V (V (s.at_+a)+s.len)-b.1))).1,l1++(ew kind a r ss (b.1,V (V (V (s.at_+a)+s.len)-b.1))).2)
  else if f.aM>0 then((ew kind a r ss (V (s.at_+a),s.len)).1,l1++(ew kind a r ss (V (s.at_+a),s.len)).2)
  else((ew kind a r ss b).1,l1++(ew kind a r ss b).2)
end
theorem R8(f:aw)(a:Int):wS f a=aG f.type a:=by cases f;rfl
mutual
theorem AW:∀(t:U)(a:Int)(b:Bk),Has b (ft t a b) (aG t a)
 | .mk kind size packed aE ba aU,a,b=>by
  rw[ft,aG];split
  ·exact b.Ia _
  · split
    · split
      ·exact Ic (λi b=>R9 aU (V (a+V ((i:Int)*(fc aU).1.1))) b) _ _ b
      ·exact Has.refl b
    · obtain⟨h1,d⟩:=rW kind a aE (cq (.mk kind size packed aE ba aU)) (0,0) b;dsimp only;rw[h1];exact d.trans (Ib _ _)
theorem R9:∀(l:List U)(a:Int)(b:Bk),Has b (n5 l a b) (n_ l a)
 |[],a,b=>by rw[n5,n_];exact Has.refl b
 |t::_,a,b=>by rw[n5,n_];exact AW t a b
theorem R_:∀(f:aw)(a:Int)(b:Bk),Has b (p9 f a b) (wS f a)
 | .mk E type bits aM,a,b=>by rw[p9,wS];exact AW type a b
theorem rW(kind a:Int):∀(l:List aw)(ss:List be)(run:Int×Int)(b:Bk),(eO kind a l ss run b).1=(ew kind a l ss run).1∧Has b (eO kind a l ss run b).2 (ew kind a l ss run).2
 |[],_,run,b=>by rw[eO,ew];exact⟨rfl,Has.refl b⟩
 |_::_,[],run,b=>by rw[eO,ew];exact⟨rfl,Has.refl b⟩
 | f :: r,s::ss,run,b=>by
  rw[eO,ew];have h1:Has b (if f.bits=false∨f.aM=0∨kind=4 then iV run b else b) (if f.bits=false∨f.aM=0∨kind=4 then fw run else []):=by
   split
   ·exact Ib run b
   ·exact Has.refl b
  generalize (if f.bits=false∨f.aM=0∨kind=4 then iV run b else b)=b1 at *;generalize (if f.bits=false∨f.aM=0∨kind=4 then fw run else [])=l1 at *;generalize (if f.bits=false∨f.aM=0∨kind=4 then((0,0):Int×Int)else run)=c;split
  · obtain⟨k1,k2⟩:=rW kind a r ss c (p9 f (V (s.at_+a)) b1);exact⟨k1,h1.trans ((R_ f _ _).trans k2)⟩
  · split
    · obtain⟨k1,k2⟩:=rW kind a r ss (c.1,V (V (V (s.at_+a)+s.len)-c.1)) b1;exact⟨k1,h1.trans k2⟩
    · split
      · obtain⟨k1,k2⟩:=rW kind a r ss (V (s.at_+a),s.len) b1;exact⟨k1,h1.trans k2⟩
      · obtain⟨k1,k2⟩:=rW kind a r ss c b1;exact⟨k1,h1.trans k2⟩
end
theorem Ie{t:U}(h:(eD t).2=0)(s:Int×Int):s∈(eD t).1↔s∈aG t 0:=by
 unfold eD at h ⊢;split at h
 ·rename_i a;exact absurd h a
 · rename_i a;rw[ab a];split at h
   ·cases h
   · rename_i hf;rw[ab hf];have b:((ft t 0 ⟨[],false⟩).tidy).full=false:=by simpa using hf
     have:=((AW t 0 ⟨[],false⟩).trans (Bk.H9 _)) b;rw[this.2 s];simp
end Rb

namespace Rb
open Go
variable{n step:Int}
def bO(n step:Int):Int:=(n+step-1)/step*step
theorem p_(h:0<step):bO n step%step=0:=by unfold bO;exact Int.mul_emod_left _ _
theorem gE(a:0<step):n≤bO n step∧bO n step≤n+step-1:=by unfold bO;have h1:=ab2 (n+step-1) step;have b:=ab3 (n+step-1) (ab4 a);have c:=ab5 (n+step-1) a;rw[ab6]at h1;omega
theorem mU(b:0≤n)(c:n≤1000000000)(a:0<step)(d:step≤1000000):ca n step=bO n step:=by have hb:=gE (n:=n) a;unfold ca;rw[wrap_i64 (n:=n+step) (by omega) (by omega),wrap_i64 (n:=n+step-1) (by omega) (by omega),ab7 (by omega)];have e:0≤(n+step-1)/step:=ab8 (by omega) (by omega);have f:(n+step-1)/step≤n+step-1:=ab9 _ (by omega);rw[wrap_i64 (n:=(n+step-1)/step) (by omega) (by omega)];show Y6 .i64 (bO n step)=_;exact bH
theorem Ig{packed:Bool}:∀{l:List aw}{seen:List (List UInt8)},fo packed seen l=0→∀f∈l,(f.bits=true→0≤f.aM∧f.aM≤8*f.type.size∧packed=false)∧(f.bits=false→f.aM=0)
 |[],_,_,f,hf=>by cases hf
 | g :: r, seen, h,f,hf=>by
  simp only[fo]at h;have a:gb packed seen g=0:=by
   by_cases hz:gb packed seen g=0
   ·exact hz
   ·rw[aa hz]at h;exact absurd h hz
  rw[ab (by simpa using a)]at h;rcases aah.1 hf with rfl|hf
  · rw [mQ] at a;split at a
    ·cases a
    · split at a
      ·cases a
      · split at a
        ·rename_i hz;exact absurd a hz
        · split at a
          ·cases a
          · rename_i b;split at a
            ·cases a
            · rename_i h9;refine⟨λhb=>?_,λhb=>?_⟩
              · have a1:¬f.aM<0:=λq=>h9 ⟨hb,.inl q⟩;have a2:¬8*f.type.size<f.aM:=λq=>h9 ⟨hb,.inr (.inl q)⟩;refine⟨by omega,by omega,?_⟩;cases packed
                ·rfl
                ·exact absurd (.inr ⟨hb,.inr rfl⟩) b
              · by_cases hw:f.aM=0
                ·exact hw
                ·exact absurd (.inl ⟨hb,hw⟩) b
  ·exact Ig h f hf
structure iW(p:PL)(n:Nat):Prop where
 b0:0≤p.bit
 b1:p.bit≤n*600000
 s0:0≤p.size
 s1:p.size≤n*75000
 a0:1≤p.bP
 a1:p.bP≤16
def wT(packed:Bool)(kind:Int)(p:PL)(f:aw)(g:Int×Int):PL:=
 let b0:=if kind=4 then 0 else p.bit
 let w:=eN packed f g.2;let r:Int×be:=
  if f.bits=true then
   if f.aM=0 then(bO b0 (8*f.type.size),⟨bO b0 (8*f.type.size)/8,0,1,true,bO b0 (8*f.type.size)%8,0⟩)
   else
    let b:=if b0/(8*f.type.size)≠(b0+f.aM-1)/(8*f.type.size)then bO b0 (8*f.type.size)else b0
    (b+f.aM,⟨b/8,(b+f.aM-1)/8-b/8+1,1,true,b%8,f.aM⟩)
  else(8*(bO (bO b0 8/8) w+g.1),⟨bO (bO b0 8/8) w,g.1,f.type.kind,false,0,0⟩)
 ⟨max p.size (bO r.1 8/8),max p.bP w,p.dv++[r.2],r.1⟩
theorem AX{packed:Bool}{kind:Int}{p:PL}{n:Nat}(hn:n≤32)(hp:iW p n){f:aw}{g:Int×Int}(s:0≤g.1)(t:g.1≤65536)(a0:1≤g.2)(a1:g.2≤16)(hb:f.bits=true→1≤f.type.size∧f.type.size≤8∧0≤f.aM∧f.aM≤8*f.type.size) :
  im packed kind p f g=wT packed kind p f g∧iW (im packed kind p f g) (n+1):=by
 obtain⟨b0,b1,s0,s1,u,AY⟩:=hp;have hB:∃b,(if kind=4 then(0:Int)else p.bit)=b∧0≤b∧b≤n*600000:=by
  split
  ·exact⟨0,rfl,ab_ _,by omega⟩
  ·exact⟨p.bit,rfl,b0,b1⟩
 obtain⟨b,l,c,c1⟩:=hB;have hW:∃w,eN packed f g.2=w∧1≤w∧w≤16:=by
  unfold eN;split
  ·exact⟨1,rfl,by omega,by omega⟩
  · split
    ·rename_i h;have:=hb h;exact⟨_,rfl,by omega,by omega⟩
    ·exact⟨_,rfl,a0,a1⟩
 obtain⟨w,m,w0,w1⟩:=hW;unfold im wT;dsimp only;rw[l,m];have size:∀x:Int,0≤x→x≤(n+1)*600000→V ((ca x 8).tdiv 8)=bO x 8/8∧bO x 8/8≤(n+1)*75000∧0≤bO x 8/8:=by intro x i o;have hu:=gE (n:=x) (step:=8) (by decide);rw[mU i (by omega) (by decide) (by decide),ab7 (by omega)];have v:=p_ (n:=x) (step:=8) (by decide);refine⟨bH,by omega,by omega⟩
 by_cases d:f.bits=true
 · obtain ⟨t0,t1,v0,v1⟩:=hb d;rw[aa d,aa d];have j:V (8*f.type.size)=8*f.type.size:=bH;have y:=gE (n:=b) (step:=8*f.type.size) (by omega);have k:ca b (8*f.type.size)=bO b (8*f.type.size):=mU c (by omega) (by omega) (by omega);unfold lA;dsimp only;by_cases hw:f.aM=0
   · rw[aa hw,aa hw];unfold lB;dsimp only;rw[j,k];obtain⟨e,z2,z3⟩:=size (bO b (8*f.type.size)) (by omega) (by omega);rw[e,ab7 (a:=bO b (8*f.type.size)) (by omega),aca (a:=bO b (8*f.type.size)) (by omega),show V (bO b (8*f.type.size)/8)=bO b (8*f.type.size)/8 from bH];exact⟨rfl,by show 0≤bO b (8*f.type.size);omega,by show bO b (8*f.type.size)≤_;push_cast;omega,by show 0≤max _ _;omega,by show max _ _≤_;push_cast;omega,by show 1≤max _ _;omega,by show max _ _≤_;omega⟩
   · rw [ab hw,ab hw];unfold lB;dsimp only;have q:hR {p with bP:=max p.bP w,bit:=b} f=if b/(8*f.type.size)≠(b+f.aM-1)/(8*f.type.size)then bO b (8*f.type.size)else b:=by
      unfold hR;dsimp only;rw[j,show V (b+f.aM)=b+f.aM from bH,show V (b+f.aM-1)=b+f.aM-1 from bH,ab7 c,ab7 (by omega),k];have z:0≤b/(8*f.type.size):=ab8 c (by omega);have A:b/(8*f.type.size)≤b:=ab9 _ c;have B:0≤(b+f.aM-1)/(8*f.type.size):=ab8 (by omega) (by omega);have C:(b+f.aM-1)/(8*f.type.size)≤b+f.aM-1:=ab9 _ (by omega);rw[show V (b/(8*f.type.size))=b/(8*f.type.size)from bH,show V ((b+f.aM-1)/(8*f.type.size))=(b+f.aM-1)/(8*f.type.size)from bH]
     rw[q];have r:∃x,(if b/(8*f.type.size)≠(b+f.aM-1)/(8*f.type.size)then bO b (8*f.type.size)else b)=x∧0≤x∧x≤b+64:=by
      split
      ·exact⟨_,rfl,by omega,by omega⟩
      ·exact⟨_,rfl,c,by omega⟩
     obtain⟨x,ex,i,o⟩:=r;rw[ex,show V (x+f.aM)=x+f.aM from bH,show V (x+f.aM-1)=x+f.aM-1 from bH];obtain⟨e,z2,z3⟩:=size (x+f.aM) (by omega) (by omega);rw[e,ab7 i,ab7 (by omega),aca i,show V (x/8)=x/8 from bH,show V ((x+f.aM-1)/8)=(x+f.aM-1)/8 from bH,show V ((x+f.aM-1)/8-x/8)=(x+f.aM-1)/8-x/8 from bH,show V ((x+f.aM-1)/8-x/8+1)=(x+f.aM-1)/8-x/8+1 from bH];exact⟨rfl,by show 0≤x+f.aM;omega,by show x+f.aM≤_;push_cast;omega,by show 0≤max _ _;omega,by show max _ _≤_;push_cast;omega,by show 1≤max _ _;omega,by show max _ _≤_;omega⟩
 · rw[ab d,ab d];unfold lB wI;dsimp only;have D:=gE (n:=b) (step:=8) (by decide);have E:=p_ (n:=b) (step:=8) (by decide);rw[mU c (by omega) (by decide) (by decide),ab7 (a:=bO b 8) (by omega),show V (bO b 8/8)=bO b 8/8 from bH];have F:=gE (n:=bO b 8/8) (step:=w) (by omega);rw[mU (n:=bO b 8/8) (by omega) (by omega) (by omega) (by omega),show V (bO (bO b 8/8) w+g.1)=bO (bO b 8/8) w+g.1 from bH,show V (8*(bO (bO b 8/8) w+g.1))=8*(bO (bO b 8/8) w+g.1)from bH];obtain⟨e,z2,z3⟩:=size (8*(bO (bO b 8/8) w+g.1)) (by omega) (by omega);rw[e];exact⟨rfl,by show 0≤8*_;omega,by show 8*(bO (bO b 8/8) w+g.1)≤_;push_cast;omega,by show 0≤max _ _;omega,by show max _ _≤_;push_cast;omega,by show 1≤max _ _;omega,by show max _ _≤_;omega⟩
end Rb

namespace Rb
open Go
theorem Ih{b w:Int}(c:0<w):bO b (8*w)=8*bO (bO b 8/8) w:=by
 unfold bO;have e1:(b+8-1)/8*8/8=(b+8-1)/8:=Int.mul_ediv_cancel _ (by decide);have a:(b+8-1)/8+w-1=(b+8*w-1)/8:=by
  have:b+8*w-1=(b+8-1)+8*(w-1):=by omega
  rw[this,acb _ _ (by decide)];omega
 rw[e1,a,Int.ediv_ediv_of_nonneg (by decide),Int.mul_left_comm]
theorem rX(b:Int):bO b 1=b:=by unfold bO;simp
def eV(packed:Bool)(kind:Int)(a:Int)(f:aw)(g:Int×Int):Int×Int×Int:=
 let b0:=if kind=4 then 0 else a
 if f.bits=true then
  (bO b0 (if f.aM=0∨b0%(8*f.type.size)+f.aM>8*f.type.size then 8*f.type.size else 1),f.aM,if packed=true∨f.aM=0 then 1 else g.2)
 else(bO b0 (if packed=true then 8 else 8*g.2),8*g.1,if packed=true then 1 else g.2)
def jI(f:aw)(x:Int×Int):be:=if f.bits=true then⟨x.1/8,if x.2>0 then(x.1+x.2-1)/8-x.1/8+1 else 0,1,true,x.1%8,x.2⟩else⟨x.1/8,x.2/8,f.type.kind,false,0,0⟩
theorem Sa{b n u:Int}(hb:0≤b)(hn:1≤n)(c:n≤u):b/u≠(b+n-1)/u↔b%u+n>u:=by
 have a:0<u:=by omega
 have h1:=ab2 b u;have d:=ab3 b (ab4 a);have f:=ab5 b a;have e:b+n-1=(b%u+n-1)+u*(b/u):=by omega
 rw[e,acb _ _ (ab4 a)];constructor
 · intro h;apply acd;intro hc;have:(b%u+n-1)/u=0:=Int.ediv_eq_zero_of_lt (by omega) (by omega);omega
 · intro h hc;have hz:(b%u+n-1)/u=0:=by omega
   have:=ab2 (b%u+n-1) u;have g:=ab5 (b%u+n-1) a;rw[hz]at this;omega
theorem AZ{packed:Bool}{kind:Int}{p:PL}{n:Nat}(hp:iW p n){f:aw}{g:Int×Int}(a0:1≤g.2)(hb:f.bits=true→1≤f.type.size∧0≤f.aM∧f.aM≤8*f.type.size∧packed=false∧g.2=f.type.size) :
  wT packed kind p f g=⟨max p.size (bO ((eV packed kind p.bit f g).1+(eV packed kind p.bit f g).2.1) 8/8),max p.bP (eV packed kind p.bit f g).2.2,p.dv++[jI f ((eV packed kind p.bit f g).1,(eV packed kind p.bit f g).2.1)],(eV packed kind p.bit f g).1+(eV packed kind p.bit f g).2.1⟩:=by
 obtain⟨b0,b1,s0,s1,l,AY⟩:=hp;have hB:∃b,(if kind=4 then(0:Int)else p.bit)=b∧0≤b:=by
  split
  ·exact⟨0,rfl,ab_ _⟩
  ·exact⟨p.bit,rfl,b0⟩
 obtain⟨b,h,i⟩:=hB;unfold wT eV jI;dsimp only;rw[h];by_cases a:f.bits=true
 · obtain ⟨t0,v0,v1,j,e⟩:=hb a;simp only[a,a_];unfold eN;by_cases hw:f.aM=0
   · simp only[hw,a,true_or,a_,or_true,and_self,Int.add_zero];simp
   · rw[ab hw];have hu:=Sa (u:=8*f.type.size) i (show 1≤f.aM by omega) v1;simp only[j,hw,a,ZP,false_or,bR,a_,and_false];have k:f.aM>0:=by omega
     rw[aa k];by_cases d:b%(8*f.type.size)+f.aM>8*f.type.size
     ·rw[aa (hu.2 d),aa d,e]
     ·rw[ab (λz=>d (hu.1 z)),ab d,rX,e]
 · have a:f.bits=false:=by simpa using a
   simp only[a,ZP,bR];unfold eN;simp only[a,ZP,false_and,or_false,bR];cases packed
   · simp only[ZP,bR];have c:=Ih (b:=b) (w:=g.2) (by omega);rw[c];have d1:8*bO (bO b 8/8) g.2/8=bO (bO b 8/8) g.2:=by omega
     have d2:8*g.1/8=g.1:=by omega
     rw[d1,d2,←ace]
   · simp only[a_];have c:=Ih (b:=b) (w:=1) (by decide);rw[Int.mul_one]at c;rw[c];have d1:8*bO (bO b 8/8) 1/8=bO (bO b 8/8) 1:=by omega
     have d2:8*g.1/8=g.1:=by omega
     rw[←c]at d1 ⊢;rw[rX]at d1 ⊢;have d3:8*(bO b 8/8)=bO b 8:=by have:=p_ (n:=b) (step:=8) (by decide);omega
     rw[d2,←d3,←ace];have d4:bO (8*(bO b 8/8)/8) 1=bO b 8/8:=by rw[rX];omega
     simp
end Rb

namespace Rb
open Go
variable{t:U}{packed:Bool}
structure oa where
 bit:Int
 end_:Int
 bP:Int
 first:List Int
 bits:List Int
def A0(packed:Bool)(kind:Int)(s:oa)(f:aw)(g:Int×Int):oa:=⟨(eV packed kind s.bit f g).1+(eV packed kind s.bit f g).2.1,max s.end_ ((eV packed kind s.bit f g).1+(eV packed kind s.bit f g).2.1),max s.bP (eV packed kind s.bit f g).2.2,s.first++[(eV packed kind s.bit f g).1],s.bits++[(eV packed kind s.bit f g).2.1]⟩
def wU(packed:Bool)(kind:Int)(s:oa):List aw→Option oa
 |[]=>some s
 |f::r=>if(A f.type).2=true then wU packed kind (A0 packed kind s f (A f.type).1) r else none
def rY:List aw→List Int→List Int→List be
 |f::r,a::x,b::y=>jI f (a,b)::rY r x y
 |_,_,_=>[]
theorem Ii:∀(fs:List aw)(x y:List Int)(f:aw)(a b:Int),x.length=fs.length→y.length=fs.length→rY (fs++[f]) (x++[a]) (y++[b])=rY fs x y++[jI f (a,b)]
 |[],[],[],f,a,b,_,_=>rfl
 | g::r,c::x,d::y,f,a,b,h1,e=>by simp only[ZS,rY];rw[Ii r x y f a b (by simpa using h1) (by simpa using e)]
structure ob(p:PL)(s:oa)(fs:List aw):Prop where
 bit:s.bit=p.bit
 e0:0≤s.end_
 size:p.size=bO s.end_ 8/8
 bP:s.bP=p.bP
 l1:s.first.length=fs.length
 l2:s.bits.length=fs.length
 dv:p.dv=rY fs s.first s.bits
theorem A1(n:Int):bO n 8/8=(n+7)/8:=by unfold bO;omega
theorem Sb{kind:Int}{p:PL}{s:oa}{fs:List aw}{n:Nat}(hn:n≤32)(hp:iW p n)(h:ob p s fs){f:aw}{g:Int×Int}(d:0≤g.1)(e:g.1≤65536)(a0:1≤g.2)(a1:g.2≤16)(hb:f.bits=true→1≤f.type.size∧f.type.size≤8∧0≤f.aM∧f.aM≤8*f.type.size∧packed=false∧g.2=f.type.size) :
  ob (im packed kind p f g) (A0 packed kind s f g) (fs++[f])∧iW (im packed kind p f g) (n+1):=by
 obtain⟨e1,a⟩:=AX (packed:=packed) (kind:=kind) hn hp d e a0 a1 (λq=>⟨(hb q).1,(hb q).2.1,(hb q).2.2.1,(hb q).2.2.2.1⟩);refine⟨?_,a⟩;have b:=AZ (kind:=kind) hp (f:=f) (g:=g) a0 (λq=>⟨(hb q).1,(hb q).2.2.1,(hb q).2.2.2.1,(hb q).2.2.2.2.1,(hb q).2.2.2.2.2⟩);have c:=a.b0;rw[e1]at c;rw[e1,b];rw[b]at c;unfold A0;rw[h.bit];have hs:=h.size;have he:=h.e0;refine⟨rfl,?_,?_,?_,?_,?_,?_⟩
 ·show 0≤max _ _;omega
 · show max p.size _=bO (max _ _) 8/8;rw[hs,A1,A1,A1];omega
 ·show max s.bP _=max p.bP _;rw[h.bP]
 ·show(s.first++[_]).length=(fs++[f]).length;simp[h.l1]
 ·show(s.bits++[_]).length=(fs++[f]).length;simp[h.l2]
 · show p.dv++[_]=_;rw[h.dv,Ii _ _ _ _ _ _ h.l1 h.l2]
def mV(packed:Bool)(f:aw):Prop:=(f.bits=true→f.type.kind=1∧1≤f.type.size∧f.type.size≤8∧0≤f.aM∧f.aM≤8*f.type.size∧packed=false)
theorem A2{l:List aw}{a:List (List UInt8)}(h:fo packed a l=0):∀f∈l,mV packed f:=λf hf hb=>by obtain⟨b,c,d⟩:=wL h f hf hb;obtain⟨w1,w2,w3⟩:=(Ig h f hf).1 hb;exact⟨b,c,d,w1,w2,w3⟩
def qa(t:U):Prop:=(A t).2=true→0≤(A t).1.1∧(A t).1.1≤65536∧1≤(A t).1.2∧(A t).1.2≤16
theorem mh(h:t.kind=1∨t.kind=2):A t=((t.size,t.size),true):=by rw[lC,aa h]
theorem Ij{packed:Bool}{kind:Int}:∀{l:List aw}{p:PL}{s:oa}{fs:List aw}{n:Nat},n+l.length≤32→iW p n→ob p s fs→(∀f∈l,mV packed f∧qa f.type) →
  (∀q,dY packed kind p l=some q→∃s',wU packed kind s l=some s'∧ob q s' (fs++l)∧iW q (n+l.length))∧(dY packed kind p l=none→wU packed kind s l=none)
 | [],p,s,fs,n,hn,hp,h,hl=>by
  refine⟨λq a=>?_,λa=>?_⟩
  · simp only[dY,Yb.injEq]at a;subst a;exact⟨s,rfl,by simpa using h,hp⟩
  ·simp only[dY]at a;cases a
 | f :: r,p,s,fs,n,hn,hp,h,hl=>by
  obtain⟨o1,o2⟩:=hl f (aaj ..);have b:n+1+r.length≤32:=by rw[abD]at hn;omega
  simp only[dY,wU,p8];by_cases ht:(A f.type).2=true
  · rw [aa ht,aa ht];obtain⟨b1,b2,b3,c⟩:=o2 ht;obtain ⟨h1,d⟩:=Sb (packed:=packed) (kind:=kind) (by omega) hp h b1 b2 b3 c (λhb=>by
      obtain⟨e,z2,z3,z4,z5,i⟩:=o1 hb;exact⟨z2,z3,z4,z5,i,by rw[mh (.inl e)]⟩)
    obtain⟨i1,i2⟩:=Ij (kind:=kind) b d h1 (λg j=>hl g (aai _ j));refine⟨λq a=>?_,i2⟩;obtain⟨s',k,m,o⟩:=i1 q a;refine⟨s',k,by simpa using m,?_⟩;rw[abD,show n+(r.length+1)=n+1+r.length by omega];exact o
  · rw[ab ht,ab ht];exact⟨λq a=>(by cases a),λ_=>rfl⟩
theorem iW.zero:iW ⟨0,1,[],0⟩ 0:=⟨ab_ _,by simp,ab_ _,by simp,ab_ _,by decide⟩
theorem ob.zero:ob ⟨0,1,[],0⟩ ⟨0,0,1,[],[]⟩ []:=⟨rfl,ab_ _,by decide,rfl,rfl,rfl,rfl⟩
theorem A3(h:c8 t=0)(a:t.kind=3∨t.kind=4):1≤t.aE.length∧t.aE.length≤32:=by
 rw[gD]at h;split at h
 ·cases h
 · rw[bw,bw,bw]at h;split at h
   ·cases h
   ·omega
theorem wV(h:c8 t=0)(a:t.kind=1∨t.kind=2):1≤t.size∧t.size≤16:=by
 rw[gD]at h;split at h
 ·cases h
 · have hp:fm t.size 8=true∨fm t.size 16=true:=by
     rcases a with h1|h1
     · rw[aa h1]at h;split at h
       ·exact .inl ‹_›
       ·cases h
     · rw[bw,aa h1]at h;split at h
       ·exact .inr ‹_›
       ·cases h
   rcases hp with hp|hp<;>(simp[fm]at hp;omega)
theorem Sc(h:c8 t=0)(a:t.kind=5):1≤t.ba∧t.ba≤65536:=by
 rw[gD]at h;split at h
 ·cases h
 · rw[bw,bw]at h;split at h
   ·cases h
   ·omega
theorem A4:∀t:U,c8 t=0→qa t:=by
 refine U.ind λt d g hs=>?_;intro h;rcases nX hs with k|k|k|k
 ·have:=wV hs (.inl k);rw[mh (.inl k)];dsimp only;omega
 ·have:=wV hs (.inr k);rw[mh (.inr k)];dsimp only;omega
 · obtain⟨e,he,i⟩:=lz hs k;have hc:=Sc hs k;rw[lC,bw,aa k,he]at h ⊢;simp only[fc,X1,dU]at h ⊢;obtain⟨b1,b2,b3,j⟩:=g e (by rw[he];simp) i h.1;have hm:0≤(A e).1.1*t.ba:=acf b1 (by omega);have m:(A e).1.1*t.ba≤65536*65536:=acg b2 hc.2 (by omega) (by decide);have hw:V ((A e).1.1*t.ba)=(A e).1.1*t.ba:=bH;have b:V ((A e).1.1*t.ba)≤65536:=of_decide_eq_true h.2;rw[hw]at b ⊢;exact⟨hm,b,b3,j⟩
 · have hk:t.kind=3∨t.kind=4:=k;have hl:=A3 hs hk;have c:=AK hs hk;rw[lC,bw,bw]at h ⊢;cases hp:dY t.packed t.kind ⟨0,1,[],0⟩ t.aE with
   |none=>rw[hp]at h;cases h
   | some p=>rw[hp]at h;dsimp only at h ⊢;obtain⟨s',o,q,a⟩:=(Ij (packed:=t.packed) (kind:=t.kind) (by omega) iW.zero ob.zero (λf hf=>⟨A2 c f hf,d f hf (rT c f hf)⟩)).1 p hp;have hu:=gE (n:=p.size) (step:=p.bP) (by have:=a.a0;omega);have l:=mU (n:=p.size) (step:=p.bP) a.s0 (by have:=a.s1;omega) (by have:=a.a0;omega) (by have:=a.a1;omega);rw[l]at h ⊢;have:=a.s0;exact⟨by omega,by simpa using h,a.a0,a.a1⟩
end Rb

namespace Rb
open Go
variable{n0 sz len:Nat}{H H':Z}{x:I}{cells:List I}
def cC(n0:Nat)(H:Z)(sz:Nat)(x:I)(len:Nat)(cells:List I):Prop:=∃tk,x = .ak tk len cells∧cells.length=len*sz∧((tk = .nil∧len=0)∨tk = .full∨∃t,tk = .own t∧n0≤t∧At H t (.tok (len*sz) sz))
theorem cC.nil(n0:Nat)(H:Z)(sz:Nat):cC n0 H sz (.ak .nil 0 []) 0 []:=⟨.nil,rfl,by simp,.inl ⟨rfl,rfl⟩⟩
theorem cC.frame(h:cC n0 H sz x len cells)(k:∀t a b,At H t (.tok a b)→At H' t (.tok a b)):cC n0 H' sz x len cells:=by
 obtain⟨tk,c,hc,ht⟩:=h;refine⟨tk,c,hc,?_⟩;rcases ht with ht|ht|⟨t,h1,d,e⟩
 ·exact .inl ht
 ·exact .inr (.inl ht)
 ·exact .inr (.inr ⟨t,h1,d,k t _ _ e⟩)
def Left(n0:Nat)(H H':Z):Prop:=H.n≤H'.n∧∀i o,At H i o→(i<n0∨∀a b,o ≠ .tok a b)→At H' i o
theorem cC.app{n0 sz b len m:Nat}{x y:I}{cells news:List I}{K:ad}(h:cC n0 H sz x len cells)(c:n0≤H.n)(d:fi H sz y=some (m,news))(hn:news.length=m*sz)(hs:news.all I.scalar=true)(f:m≠0)
  (hb:(len+m)*b≤140737488355328) (hl:len+m≤9223372036854775807) (g:∀j H',cC n0 H' sz j (len+m) (cells++news)→Left n0 H H'→K j H'):ar (cr H false sz b x y) K:=by
 obtain⟨tk,rfl,hc,l⟩:=h;have hlen:(cells++news).length=(len+m)*sz:=by simp[hc,hn,Yu]
 have grow:∀tk:Tok,tk = .full∨(tk = .nil∧len=0)→cr H false sz b (.ak tk len cells) y=some (.ak (.own H.n) (len+m) (cells++news),H.push (.tok ((len+m)*sz) sz)):=by intro tk ht;simp only[cr,d,hs,not_true_eq_false,bR,ab f];rw[ab (by simp only[abz];exact⟨hc,hb,hl⟩)];rcases ht with rfl|⟨rfl,_⟩<;>rfl
 have fresh:K (.ak (.own H.n) (len+m) (cells++news)) (H.push (.tok ((len+m)*sz) sz)):=
  g _ _ ⟨_,rfl,hlen,.inr (.inr ⟨H.n,rfl,c,At.new H _⟩)⟩ ⟨YB _,λi o h _=>h.push _⟩
 rcases l with ht|ht|⟨t,rfl,h1,k⟩
 ·exact⟨_,_,grow tk (.inr ht),fresh⟩
 ·exact⟨_,_,grow tk (.inl ht),fresh⟩
 · refine ⟨.ak (.own H.n) (len+m) (cells++news),(H.set t .gone).push (.tok ((len+m)*sz) sz),?_,g _ _ ⟨_,rfl,hlen,.inr (.inr ⟨H.n,rfl,c,At.new (H.set t .gone) _⟩)⟩ ⟨YB _,λi o hi a=>(hi.bZ (λe=>?_) _).push _⟩⟩
   · simp only[cr,d,hs,not_true_eq_false,bR,ab f];rw[ab (by simp only[abz];exact⟨hc,hb,hl⟩)];simp[k.2]
   · subst e;rcases a with a|a
     ·omega
     ·exact a _ _ (hi.2.symm.trans k.2)
theorem Left.row{i:Nat}{cs:List I}(k:Left n0 H H')(h:At H i (.row cs)):At H' i (.row cs):=k.2 _ _ h (.inr λ_ _ e=>by cases e)
end Rb

namespace Rb
open Go
def b5(vars:List B)(s:u)(loc:I):List I:=[au B.cells vars,loc,J s.lets,J s.X,J s.lG,J s.bI]
def b7(id:Nat)(H H':Z):Prop:=H.n≤H'.n∧∀i o,i≠id→At H i o→At H' i o
theorem b7.refl(id:Nat)(H:Z):b7 id H H:=⟨sl _,λ_ _ _ h=>h⟩
theorem b7.trans{id:Nat}{a b c:Z}(h:b7 id a b)(k:b7 id b c):b7 id a c:=⟨xl h.1 k.1,λi o hi d=>k.2 i o hi (h.2 i o hi d)⟩
theorem b7.push(id:Nat)(H:Z)(x:bM):b7 id H (H.push x):=⟨YB _,λi o _ h=>h.push x⟩
theorem b7.set(id:Nat)(H:Z)(x:bM):b7 id H (H.set id x):=⟨sl _,λi o hi h=>h.bZ hi x⟩
def gk(H:Z)(id:Nat)(loc:I)(l:List (List UInt8)):Prop:=(loc = aS∧l=[])∨∃j cs,loc = .row j 0 l.length 1∧j≠id∧At H j (.row cs)∧l.length≤cs.length∧cs.take l.length=l.map .str
theorem gk.aJ{H H':Z}{id:Nat}{loc:I}{l:List (List UInt8)}(h:gk H id loc l)(k:b7 id H H'):gk H' id loc l:=by
 rcases h with h|⟨j,cs,h1,a,b,c,d⟩
 ·exact .inl h
 ·exact .inr ⟨j,cs,h1,a,k.2 j _ a b,c,d⟩
def dJ(a b:u):Prop:=b.g=a.g∧b.lets=a.lets
theorem dJ.refl(a:u):dJ a a:=⟨rfl,rfl⟩
theorem dJ.trans{a b c:u}(h:dJ a b)(k:dJ b c):dJ a c:=⟨k.1.trans h.1,k.2.trans h.2⟩
theorem eI(s:u)(a:Bool)(e:Int):dJ s (s.cJ a e):=by
 unfold u.cJ;split
 ·exact⟨rfl,rfl⟩
 ·exact dJ.refl s
theorem Ik(s:u)(d:Int)(e:ax):dJ s (eB s d e):=(eI _ _ _).trans ((eI _ _ _).trans (eI _ _ _))
theorem A5(s:u)(d:Int)(x:ay):dJ s (gh s d x):=(eI _ _ _).trans ((eI _ _ _).trans (eI _ _ _))
section
variable(vars:List B)
theorem Sd(s:u)(k:Int)(x:aN):dJ s (ka vars s k x):=(eI _ _ _).trans (eI _ _ _)
mutual
theorem wW:∀(e:ax)(s:u)(d:Int),dJ s (lH vars s d e)
 | .mk kind n E op aV place bq,s,d=>by
  have a:=Ik s d (.mk kind n E op aV place bq);rw[lH];split
  ·exact a
  · have h1:dJ s (if kind=2 then(eB s d (.mk kind n E op aV place bq)).cJ ((eB s d (.mk kind n E op aV place bq)).has E) 6 else eB s d (.mk kind n E op aV place bq)):=by
      split
      ·exact a.trans (eI _ _ _)
      ·exact a
    refine dJ.trans ?_ (wX bq _ d);split
    ·exact h1.trans (A6 place _ _ d)
    ·exact h1
theorem wX:∀(l:List ax)(s:u)(d:Int),dJ s (eC vars s d l)
 |[],s,d=>by rw[eC];exact dJ.refl s
 | e::r,s,d=>by
  rw[eC];refine dJ.trans ?_ (wX r _ d);split
  ·exact dJ.refl s
  ·exact wW e s _
theorem A6:∀(x:aN)(s:u)(k d:Int),dJ s (kc vars s k d x)
 | .mk var aB,s,k,d=>by
  rw[kc];split
  ·exact dJ.refl s
  ·exact(Sd vars s k _).trans (Il aB _ d)
theorem Il:∀(l:List K)(s:u)(d:Int),dJ s (hd vars s d l)
 |[],s,d=>by rw[hd];exact dJ.refl s
 |p::r,s,d=>by rw[hd];exact(Se p s d).trans (Il r _ d)
theorem Se:∀(p:K)(s:u)(d:Int),dJ s (mS vars s d p)
 | .mk field bc,s,d=>by rw[mS];exact Im bc s d
theorem Im:∀(l:List ax)(s:u)(d:Int),dJ s (jH vars s d l)
 |[],s,d=>by rw[jH];exact dJ.refl s
 |e::r,s,d=>by rw[jH];exact(wW e s _).trans (Im r _ d)
end
end
theorem gk.still{H:Z}{id:Nat}{loc:I}{a b:u}(h:gk H id loc a.g)(k:dJ a b):gk H id loc b.g:=by rw[k.1];exact h
section
variable{Φ:ai}{H:Z}{Q:ad}{id:Nat}{vars:List B}{s:u}{loc:I}
theorem oc(a:At H id (.row (b5 vars s loc)))(hQ:Q (.bool (s.bI != 0)) H):S.f65 Φ (.ptr id 0) H Q:=by unfold S.f65;simp only[aZ,W,T,YI];rw[a.load,show bU (b5 vars s loc) (4+1) 1 false=some (J s.bI)from rfl];simp only[T,d_];exact hQ
theorem hg(hT:Cl Φ S.bu){a:Bool}{e:Int}(c:At H id (.row (b5 vars s loc)))(hQ:∀H',b7 id H H'→At H' id (.row (b5 vars (s.cJ a e) loc))→Q (.aq []) H') :
  Φ 140 [.ptr id 0,.bool a,J e] H Q:=by
 refine S.P4 hT ?_;unfold S.f140;have k1:∀b:Bool,(b=true↔a=false∧s.bI=0)→N (S.vq Φ (.ptr id 0) (J e) Q) [.bool b] H:=by
  intro b hb;simp only[aT,S.vq,aF,aD,aZ,W,YI,T];apply aI<;>intro h
  · rw[c.load,show bU (b5 vars s loc) 3 1 false=some (J s.X)from rfl];simp only[T];rw[show bo [D,D] [(0,1,J s.X),(1,1,J e)]=some (.agg [J s.X,J e])from rfl];simp only[T];rw[c.store,aa ⟨rfl,rfl,rfl,by simp[b5]⟩];simp only[T];refine hQ _ (b7.set id H _) ?_;have:s.cJ a e={s with lG:=s.X,bI:=e}:=by unfold u.cJ;rw[aa (hb.1 h)]
    rw[this];exact c.set _
  · refine hQ H (b7.refl _ _) ?_;have:s.cJ a e=s:=by unfold u.cJ;rw[ab λx=>h (hb.2 x)]
    rw[this];exact c
 simp only[ec,T,cP];apply aI<;>intro h
 · refine S.nQ hT (oc c ?_);simp only[ec,T];refine k1 _ ?_;simp only[Z4]at h;simp[h]
 · refine k1 _ ?_;simp only[Z4,Bool.not_eq_false]at h;simp[h]
theorem Sf{a:I}{xs:List (List UInt8)}{t:List UInt8}(d:bp false a=some (J xs.length))(e:∀(i:Nat) x,xs[i]?=some x→∃p,aP none 1 a (J i)=some p∧O H 1 false p=some (.str x))(hb:xs.length≤9223372036854775807)
  (hQ:Q (J (ga (xs.findIdx? λx=>t==x))) H):S.f188 Φ a (.str t) H Q:=by
 unfold S.f188;rw[d];simp only[T];have main:∀(b:List (List UInt8)) (i:Nat),xs.drop i=b→Q (J (ga ((b.findIdx? λx=>t==x).map (·+ i)))) H→aC (S.vQ Φ a (.str t) (J xs.length) Q) ([J i],H):=by
  intro b;induction b with
  | nil=>intro i hi c;have hle:=er hi;refine aC.step ?_;simp only[S.vQ,aF,bD,T,aD];rw[ee];simpa[ga]using c
  | cons y b f=>
   intro i hi c;obtain⟨l,g,h⟩:=ed hi;obtain⟨p,h1,j⟩:=e i y g;refine aC.step ?_;simp only[S.vQ,aF,bD,T,aD];rw[dW,h1];simp only[T];rw[j];simp only[T,iU,aD];rw[List.findIdx?_cons]at c;by_cases he:(t==y)=true
   · rw[aa he];rw[aa he]at c;simpa[ga]using c
   · rw [ab he];rw[ab he]at c;simp only[b4,T];rw[bH,iS i];refine f (i+1) h ?_;have:(abI (λx=>t==x) b).map (·+ (i+1))=((abI (λx=>t==x) b).map (·+ 1)).map (·+ i):=by
      rw[Option.map_map];congr 1;funext k;simp only[Function.comp];omega
     rw[this];exact c
 refine main xs 0 rfl ?_;simpa using hQ
theorem A7(hT:Cl Φ S.bu){a:I}{xs:List (List UInt8)}{t:List UInt8}(b:bp false a=some (J xs.length))(c:∀(i:Nat) x,xs[i]?=some x→∃p,aP none 1 a (J i)=some p∧O H 1 false p=some (.str x))(hb:xs.length≤9223372036854775807)
  (hQ:Q (.bool (xs.any λx=>t==x)) H):Φ 138 [a,.str t] H Q:=by
 refine S.P3 hT ?_;unfold S.f138;refine S.Qw hT (Sf b c hb ?_);simp only[gZ,T,wy];exact hQ
theorem rZ(hT:Cl Φ S.bu){x:List UInt8}(b:At H id (.row (b5 vars s loc)))(c:gk H id loc s.g)(hb:s.g.length≤1000)(hQ:Q (.bool (s.has x)) H):Φ 143 [.ptr id 0,.str x] H Q:=by
 refine S.P7 hT ?_;unfold S.f143;simp only[aZ,W,T,YI];rw[b.load,show bU (b5 vars s loc) 1 1 false=some loc from rfl];simp only[T];rcases c with⟨rfl,h⟩|⟨j,cs,rfl,n,d,o,f⟩
 · unfold u.has at hQ;rw[h]at hQ;exact A7 hT (xs:=[]) rfl (λi x k=>by cases k) (by simp) hQ
 · refine A7 hT (xs:=s.g) rfl (λi y a=>?_) (by omega) hQ;have m:=(XV.1 a).1;refine⟨.ptr j i,?_,?_⟩
   · simp only[aP];rw[aa ⟨by omega,by omega⟩];simp
   · rw [d.load];unfold bU;rw[cG];have e:cs[i]?=some (.str y):=by
      have:=congrArg (λl=>l[i]?) f;simp only[XX,YN,a,aa m,Option.map_some]at this;exact this
     simp[e]
end
end Rb

namespace Rb
open Go
variable{k:Int}{b:Bool}{A B:Prop}
section
variable{Φ:ai}{H:Z}{Q:ad}
theorem Sg{k o:Int}(hQ:Q (.bool (ir k o)) H):S.f142 Φ (J k) (J o) H Q:=by
 have e:∀b:Bool,b=ir k o→Q (.bool b) H:=λb h=>by rw[h];exact hQ
 simp only[S.f142,S.zP,S.zQ,S.Gr,S.vr,S.zR,S.zS,aT,aF,cI,gZ,j7,T,aD,cP,cv,ZP,bR,a_]
 repeat' (apply aI<;>intro h)
 all_goals (refine e _ ?_;simp only[bG,dU,ge_iff_le,beq_eq_false_iff_ne,ne_eq]at *;first|(subst_vars;simp[ir];done)|(simp_all [ir];done)|(simp_all [ir];omega)|skip)
theorem Io{x:aN}(hQ:Q (.bool (kD x)) H):S.f192 Φ (.agg x.cells) H Q:=by
 unfold S.f192;simp only[Az,aR,AA,T,HM,AB,cU,iU,cI,cP];unfold kD at hQ;apply aI<;>intro h
 · rw[h]at hQ;have e:((x.aB.length:Int)==0)=(x.aB.length==0):=by rw[aaf];simp
   rw[e];simpa using hQ
 · simp only[abQ]at h;rw[h]at hQ;exact hQ
theorem Sh{t:U}(hQ:Q (.bool (jk k t)) H):S.f193 Φ (J k) (.agg t.cells) H Q:=by
 have e:∀b:Bool,b=jk k t→Q (.bool b) H:=λb h=>by rw[h];exact hQ
 simp only[S.f193,S.G6,S.z_,S.Aa,gC,aR,dX,T,kB,p3,aT,aF,cI,j7,aD,cP]
 repeat' (apply aI<;>intro h)
 all_goals (refine e _ ?_;unfold jk;simp only[bG]at *;first|(exfalso;omega)|(subst_vars;simp[*];done)|(simp[*];done)|(subst_vars;simp_all;done)|skip)
def kF(k:Int):List I:=if 1≤k∧k≤10 then [.bool (eG k).1,.bool (eG k).2.1,.bool (eG k).2.2.1,J (eG k).2.2.2.1,.bool (eG k).2.2.2.2.1,.bool (eG k).2.2.2.2.2]else [P,P,P,D,P,P]
theorem Si(k:Int):(kF k).length=6:=by unfold kF;split<;>rfl
theorem Sj(k:Int):(kF k).all I.scalar=true:=by unfold kF;split<;>rfl
theorem Sk(hQ:∀H',Q (.aq [.agg (kF k),.bool (decide (1≤k)&&decide (k≤10))]) H'):S.f191 Φ (J k) H Q:=by
 have fin:∀(cs:List I)(b:Bool) H',kF k=cs→(decide (1≤k)&&decide (k≤10))=b→Q (.aq [.agg cs,.bool b]) H':=λcs b H' h1 a=>by rw[←h1,←a];exact hQ H'
 clear hQ;simp only[S.f191,S.G3,S.z7,S.z8,aR,aL,a_,T,aT,aF,cI,aD]
 repeat' (apply aI<;>intro h)
 all_goals (refine⟨_,rfl,_,cS _ _ _ 6 rfl rfl rfl,_,by rw[eL];exact gL rfl,fin _ _ _ ?_ ?_⟩)
 all_goals (simp only[bG]at *;first|(exfalso;omega)|(subst_vars;rfl)|skip)
 ·unfold kF;rw[bw]
 ·rw[ach,decide_eq_false_iff_not,decide_eq_false_iff_not];omega
theorem r2(e:ax)(H:Z):aO H false 8 (.agg e.cells)=some (.ae e.cells,H):=by unfold aO;rw[aa ⟨rfl,e.len⟩];rfl
theorem lK(e:ax)(i:Nat):W i (.ae e.cells)=some (.ae (e.cells.drop i)):=rfl
theorem lM(e:ax)(H:Z):O H 1 false (.ae (e.cells.drop 0))=some (J e.kind):=by rw[ax.bF,aN.bF];rfl
theorem Ip(e:ax)(H:Z):O H 1 false (.ae (e.cells.drop 1))=some (bY e.n):=by rw[ax.bF,aN.bF];rfl
theorem A8(e:ax)(H:Z):O H 1 false (.ae (e.cells.drop 2))=some (.str e.E):=by rw[ax.bF,aN.bF];rfl
theorem Iq(e:ax)(H:Z):O H 1 false (.ae (e.cells.drop 3))=some (J e.op):=by rw[ax.bF,aN.bF];rfl
theorem Ir(e:ax)(H:Z):O H 1 false (.ae (e.cells.drop 4))=some (J e.aV):=by rw[ax.bF,aN.bF];rfl
theorem r3(e:ax)(H:Z):O H 2 true (.ae (e.cells.drop 5))=some (.agg e.place.cells):=by rw[ax.bF,aN.bF];rfl
theorem wY(e:ax)(H:Z):O H 1 false (.ae (e.cells.drop 7))=some (au ax.cells e.bq):=by rw[ax.bF,aN.bF];rfl
theorem A9(e:ax)(H:Z):O H 8 true (.ae e.cells)=some (.agg e.cells):=gL e.len
theorem od(e:ay)(H:Z):aO H false 10 (.agg e.cells)=some (.ae e.cells,H):=by unfold aO;rw[aa ⟨rfl,e.len⟩];rfl
theorem hh(e:ay)(i:Nat):W i (.ae e.cells)=some (.ae (e.cells.drop i)):=rfl
theorem lN(e:ay)(H:Z):O H 1 false (.ae (e.cells.drop 0))=some (J e.kind):=by rw[ay.bF,aN.bF];rfl
theorem A_(e:ay)(H:Z):O H 1 false (.ae (e.cells.drop 1))=some (J e.X):=by rw[ay.bF,aN.bF];rfl
theorem mW(e:ay)(H:Z):O H 1 false (.ae (e.cells.drop 2))=some (.str e.E):=by rw[ay.bF,aN.bF];rfl
theorem Ba(e:ay)(H:Z):O H 1 false (.ae (e.cells.drop 3))=some (.str e.cg):=by rw[ay.bF,aN.bF];rfl
theorem wZ(e:ay)(H:Z):O H 1 false (.ae (e.cells.drop 4))=some (J e.aV):=by rw[ay.bF,aN.bF];rfl
theorem oe(e:ay)(H:Z):O H 2 true (.ae (e.cells.drop 5))=some (.agg e.place.cells):=by rw[ay.bF,aN.bF];rfl
theorem mX(e:ay)(H:Z):O H 1 false (.ae (e.cells.drop 7))=some (au ax.cells e.bf):=by rw[ay.bF,aN.bF];rfl
theorem w4(e:ay)(H:Z):O H 1 false (.ae (e.cells.drop 8))=some (au ay.cells e.bg):=by rw[ay.bF,aN.bF];rfl
theorem Bb(e:ay)(H:Z):O H 1 false (.ae (e.cells.drop 9))=some (au ay.cells e.bx):=by rw[ay.bF,aN.bF];rfl
theorem Is(e:ay)(H:Z):O H 10 true (.ae e.cells)=some (.agg e.cells):=gL e.len
theorem It{α:Type}(l:List α):((l.length:Int)==0)=(l.length==0):=by rw[aaf];simp
theorem ite_bool(a:b=true→A)(c:b=false→B):if b=true then A else B:=aI a λh=>c (by simpa using h)
theorem iv(a:b=false→A)(c:b=true→B):if b=false then A else B:=aI a λh=>c (by simpa using h)
theorem Sl(hT:Cl Φ S.bu){e:ax}(hQ:Q (.bool (hU e)) H):S.f215 Φ (.agg e.cells) H Q:=by
 have fin:∀b:Bool,b=hU e→Q (.bool b) H:=λb h=>by rw[h];exact hQ
 clear hQ;have j : (decide (1≤e.kind)&&decide (e.kind≤8))=true→S.mO Φ (.ae e.cells) Q [J (iu e.kind).1,.bool (iu e.kind).2] H:=by
  intro hk;unfold hU at fin;rw[hk]at fin;simp only[abb]at fin;generalize k:iu e.kind=a at fin ⊢;have k1:∀b:Bool,(∀c,c=(b&&((e.bq.length:Int)==a.1))→Q (.bool c) H)→N (S.rO Φ (.ae e.cells) [J a.1,.bool a.2] Q) [.bool b] H:=by
   intro b hb;simp only[aT,S.rO,aF,c4,cP,lK,wY,cU,cI,T];cases b
   ·exact hb _ rfl
   ·exact hb _ rfl
  have k2:∀b:Bool,(∀c,c=((b&&(a.2||kD e.place))&&((e.bq.length:Int)==a.1))→Q (.bool c) H)→N (S.ls Φ (.ae e.cells) [J a.1,.bool a.2] Q) [.bool b] H:=by
   intro b hb;simp only[aT,S.ls,aF,c4,cP,cv,lK,r3,T];cases b
   ·exact k1 _ λc hc=>hb c (by rw[hc];rfl)
   · rw [aa rfl];apply iv<;>intro h
     · refine S.Ho hT (Io ?_);exact k1 _ λc hc=>hb c (by rw[hc,h];rfl)
     ·exact k1 _ λc hc=>hb c (by rw[hc,h];rfl)
  have d : ∀b:Bool,(∀c,c=(((b&&(if e.kind=3 then decide (1≤e.op)&&decide (e.op≤11)else e.op==0))&&(a.2||kD e.place))&&((e.bq.length:Int)==a.1))→Q (.bool c) H) →
    N (S.rP Φ (.ae e.cells) (.bool (e.kind==3)) [J a.1,.bool a.2] Q) [.bool b] H:=by
   intro b hb;simp only[aT,S.rP,aF,c4,cP,cv,lK,Iq,T,gZ,j7,cI,ec];cases b
   ·exact k2 _ λc hc=>hb c (by rw[hc];rfl)
   · rw [aa rfl];apply ite_bool<;>intro h
     · rw [aa (by simpa using h)]at hb;apply ite_bool<;>intro h1
       · apply iv<;>intro f
         · rw[h,eM];exact k2 _ λc hc=>hb c (by rw[hc];simp only[ge_iff_le]at h1;rw[h1,f];rfl)
         ·exact k2 _ λc hc=>hb c (by rw[hc];simp only[ge_iff_le]at h1;rw[h1,f];rfl)
       · rw[h,eM];exact k2 _ λc hc=>hb c (by rw[hc];simp only[ge_iff_le]at h1;rw[h1];rfl)
     · rw[ab (by simpa using h)]at hb;rw[h,kG];exact k2 _ λc hc=>hb c (by rw[hc];rfl)
  have i:∀b:Bool,(∀c,c=((((b&&(e.kind==2||e.E==[]))&&(if e.kind=3 then decide (1≤e.op)&&decide (e.op≤11)else e.op==0))&&(a.2||kD e.place))&&((e.bq.length:Int)==a.1))→Q (.bool c) H) →
    N (S.v8 Φ (.ae e.cells) (.bool (e.kind==3)) [J a.1,.bool a.2] Q) [.bool b] H:=by
   intro b hb;simp only[aT,S.v8,aF,c4,cP,cv,lK,lM,A8,T,cI,iU];cases b
   ·exact d _ λc hc=>hb c (by rw[hc];rfl)
   · rw[aa rfl];apply iv<;>intro h
     ·exact d _ λc hc=>hb c (by rw[hc,h];rfl)
     ·exact d _ λc hc=>hb c (by rw[hc,h];rfl)
  simp only[S.mO,lK,lM,Ip,T,cI,cv];apply iv<;>intro h
  ·exact i _ λc hc=>fin c (by rw[hc,h];rfl)
  ·exact i _ λc hc=>fin c (by rw[hc,h];rfl)
 simp only[S.f215,S.Ad,S.Ae,S.Af,r2,aR,lK,lM,T,aT,aF,cI,aD,bG];have g:∀n b,iu e.kind=(n,b)→(decide (1≤e.kind)&&decide (e.kind≤8))=true→S.mO Φ (.ae e.cells) Q [J n,.bool b] H:=λn b h hk=>by have:=j hk;rw[h]at this;exact this
 repeat' (apply aI<;>intro h)
 all_goals first
  |(exfalso;omega)
  | (refine g _ _ ?_ ?_
     · unfold iu;simp[*]
     ·simp[*])
  |skip
 refine fin _ ?_;have:(decide (1≤e.kind)&&decide (e.kind≤8))=false:=by rw[ach,decide_eq_false_iff_not,decide_eq_false_iff_not];omega
 unfold hU;rw[this];rfl
end
end Rb

namespace Rb
open Go
variable{s:u}{loc:I}{H:Z}
theorem og:maxLen=9223372036854775807:=by decide
theorem ax.fP{e:ax}(h:e.ok):(e.bq.length≤9223372036854775807∧∀k∈e.bq,k.ok)∧e.place.ok:=by
 rw[←og];cases e with
 | mk kind n E op aV place bq=>obtain⟨_,_,_,_,_,a,b,c⟩:=h;exact⟨⟨b,ax.dZ.1 c⟩,a⟩
theorem aN.fP{x:aN}(h:x.ok):x.aB.length≤9223372036854775807∧∀p∈x.aB,p.bc.length≤9223372036854775807∧∀i∈p.bc,i.ok:=by
 rw[←og];cases x with
 | mk var aB=>
  obtain⟨_,a,b⟩:=h;refine⟨a,λp hp=>?_⟩;have:=K.dZ.1 b p hp;cases p with
  | mk field bc=>obtain⟨_,c,d⟩:=this;exact⟨c,ax.dZ.1 d⟩
theorem ax.ind{P:ax→Prop}(h:∀e:ax,(∀k∈e.bq,P k)→(∀p∈e.place.aB,∀i∈p.bc,P i)→P e):∀e,P e:=by
 have main:∀(n:Nat)(e:ax),sizeOf e<n→P e:=by
  intro n;induction n with
  |zero=>intro e he;omega
  | succ n a=>
   intro e he;refine h e (λk hk=>a _ ?_) λp hp i hi=>a _ ?_
   · cases e with
     | mk kind n E op aV place bq=>have:=abP hk;simp at this he ⊢;omega
   · cases e with
     | mk kind n E op aV place bq=>
      cases place with
      | mk var aB=>
       have h1:=abP hp;cases p with
       | mk field bc=>have b:=abP hi;simp at h1 b he ⊢;omega
 exact λe=>main _ e (aaJ _)
section
variable{C:Ctx}(aj:bN C)(hT:Cl (af C) S.bu)
include aj hT
theorem Iu(k o:Int):bB (af C) 142 [J k,J o] (.bool (ir k o)):=λH Q hQ=>S.P6 hT (Sg hQ)
theorem Sm(e:ax):bB (af C) 215 [.agg e.cells] (.bool (hU e)):=λH Q hQ=>S.QF hT (Sl hT hQ)
theorem Sn(k:Int)(t:U):bB (af C) 193 [J k,.agg t.cells] (.bool (jk k t)):=λH Q hQ=>S.Qy hT (Sh hQ)
theorem Sp(t:U)(p:K)(hs:c8 t=0)(hl:p.bc.length≤maxLen):bB (af C) 69 [.agg t.cells,.agg p.cells] (g_ (cV t p)):=bB.of aj (by simp[I.bA,I.bb,U.bb,K.bb]) (HL _) λQ hQ=>S.Pq hT (Rx hT hs hl hQ)
theorem Bc(vars:List B)(x:aN)(hl:vars.length≤maxLen)(hv:∀v∈vars,v.ok)(a:x.ok):bB (af C) 39 [au B.cells vars,.agg x.cells] (g_ (bK vars x)):=by
 have hp:=aN.fP a;rw[←og]at hp;exact bB.of aj (by simp[I.bA,I.bb,aN.bb,j_ B.bb]) (HL _) λQ hQ=>S.O_ hT (RA hT hl hp.1 (λv b=>HI aj hT v.type (hv v b).2) (λt p hs c=>Sp aj hT t p hs (hp.2 p c).1) hQ)
end
def w5(C:Ctx)(id:Nat)(vars:List B)(e:ax):Prop:=
 ∀ (s:u) (d:Int) (loc:I) (H:Z) (Q:ad),At H id (.row (b5 vars s loc))→gk H id loc s.g→s.g.length≤1000 →
  (∀H',b7 id H H'→At H' id (.row (b5 vars (lH vars s d e) loc))→Q (.aq []) H')→af C 194 [.ptr id 0,.agg e.cells,J d] H Q
def fG(r:Int×U):List I:=if r.1=0 then r.2.cells else ji
theorem w6(r:Int×U):(fG r).length=6:=by unfold fG;split;exact r.2.len;rfl
theorem Bd(r:Int×U):(fG r).all I.scalar=true:=by unfold fG;split;exact r.2.scalar;rfl
theorem Be(r:Int×U):g_ r = .aq [.agg (fG r),J r.1]:=by unfold g_ fG;split;rename_i h;rw[h];rfl
section
variable{C:Ctx}(aj:bN C)(hT:Cl (af C) S.bu){id:Nat}{vars:List B}
include aj hT
theorem Iv{l:List ax}(hl:l.length≤9223372036854775807)(o:∀e∈l,w5 C id vars e){d:Int}{Q:ad}(p:At H id (.row (b5 vars s loc)))(q:gk H id loc s.g)(hb:s.g.length≤1000)
  (hQ:∀H',b7 id H H'→At H' id (.row (b5 vars (eC vars s d l) loc))→Q (.aq []) H'):af C 145 [.ptr id 0,au ax.cells l,J d] H Q:=by
 refine S.P_ hT ?_;unfold S.f145;simp only[cU,T];have main:∀(r:List ax)(i:Nat)(s':u)(H1:Z),l.drop i=r→dJ s s'→b7 id H H1→At H1 id (.row (b5 vars s' loc))→eC vars s' d r=eC vars s d l →
   aC (S.rK (af C) (.ptr id 0) (au ax.cells l) (J d) (J l.length) Q) ([J i],H1):=by
  intro r;induction r with
  | nil=>intro i s' H1 c b hk ha he;have hle:=er c;refine aC.step ?_;simp only[S.rK,aF,bD,T,aD];rw[ee];rw[eC]at he;exact hQ H1 hk (by rw[←he];exact ha)
  | cons e r t=>
   intro i s' H1 c b hk ha he;obtain⟨v,m,w⟩:=ed c;refine aC.step ?_;simp only[S.rK,aF,bD,T,aD];rw[dW,cQ v];simp only[T];rw[dD ax.len (by decide) _ m];simp only[T,aR,aL,a_];rw[cS _ _ _ 8 e.len e.scalar rfl];simp only[T];have eK:=ha.push (.row e.cells);have f:=hk.trans (b7.push id H1 (.row e.cells));have x:O (H1.push (.row e.cells)) 8 true (.ptr H1.n 0)=some (.agg e.cells):=by rw[eL,gL e.len]
   have next:∀(s2:u)(a:Z),b7 id H a→At a id (.row (b5 vars s2 loc))→dJ s s2→eC vars s2 d r=eC vars s d l →
     N (S.vv (af C) ([J i],H1) (aC (S.rK (af C) (.ptr id 0) (au ax.cells l) (J d) (J l.length) Q)) Q) [] a:=by
    intro s2 a j a3 y z;simp only[aT,S.vv,aF,b4,T];rw[bH,iS i];exact t (i+1) s2 a w y j a3 z
   rw[eC]at he;generalize H1.push (.row e.cells)=H2 at *;refine S.nQ hT (oc eK ?_);simp only[ec,T,aD];apply aI<;>intro h
   · have k:s'.bI=0:=by simpa using h
     rw[ab (by simpa using k)]at he;simp only[x,T,b4];refine o e (aaH m) s' _ loc H2 _ eK ((q.aJ f).still b) (by rw[b.1];exact hb) λa j a3=>?_;exact next _ a (f.trans j) a3 (b.trans (wW vars e s' _)) he
   · have k:s'.bI≠0:=by simpa using h
     rw[aa k]at he;exact next s' H2 f eK b he
 exact main l 0 s H rfl (dJ.refl s) (b7.refl id H) p rfl
theorem Iw(R:vars.length≤maxLen)(hv:∀v∈vars,v.ok){x:aN}(E:x.ok)(U:∀p∈x.aB,∀i∈p.bc,w5 C id vars i){k d:Int}{Q:ad}(c:At H id (.row (b5 vars s loc)))(V:gk H id loc s.g)(hb:s.g.length≤1000)
  (hQ:∀H',b7 id H H'→At H' id (.row (b5 vars (kc vars s k d x) loc))→Q (.aq []) H'):af C 144 [.ptr id 0,J k,.agg x.cells,J d] H Q:=by
 obtain⟨aE,X⟩:=aN.fP E;refine S.P9 hT ?_;unfold S.f144;simp only[Az,aR];refine S.nQ hT (oc c ?_);simp only[aD];rw[RZ]at hQ;apply aI<;>intro h
 · rw[aa (by simpa using h)]at hQ;exact hQ H (b7.refl _ _) c
 · have F : s.bI=0:=by simpa using h
   rw[ab (by simpa using F)]at hQ;simp only[aZ,W,T,YI,Yx];have l0:O H 1 false (.ptr id 0)=some (au B.cells vars):=by rw[c.load];rfl
   have ac:O H 2 true (.ae x.cells)=some (.agg x.cells):=gL x.len;simp only[l0,ac,T];refine Bc aj hT vars x R hv E _ _ ?_;rw[Be];simp only[bj,abj,abk,T,aR,aL,a_];have a2:=c.push (.row ji);refine⟨(a2.load 1 0 false).trans rfl,gL x.len,?_⟩;change Do (Y (H.push (.row ji)) 6 (.ptr H.n 0) (.agg (fG (bK vars x)))) _;rw[cS _ _ _ 6 (w6 _) (Bd _) rfl];simp only[T,cI];have a3:=c.push (.row (fG (bK vars x)));have ag:=b7.push id H (.row (fG (bK vars x)));have ah:=At.new H (.row (fG (bK vars x)));have ai:H.n≠id:=YL c.lv;generalize H.push (.row (fG (bK vars x)))=H2 at *;generalize H.n=aG at *;refine hg hT a3 λaH G a4=>?_;have ak:=G.2 _ _ ai ah;have I:=ag.trans G;have aB:∀(s1:u)(b:Z),dJ s s1→b7 id H b→At b id (.row (b5 vars s1 loc))→hd vars s1 d x.aB=hd vars (ka vars s k x) d x.aB→N (S.vu (af C) (.ptr id 0) (J d) (.ae x.cells) Q) [] b:=by
    intro s1 b o hk ha he;simp only[aT,S.vu,AA,AB,cU,T];have main:∀(r:List K)(i:Nat)(s':u)(H1:Z),x.aB.drop i=r→dJ s s'→b7 id H H1→At H1 id (.row (b5 vars s' loc))→hd vars s' d r=hd vars (ka vars s k x) d x.aB →
      aC (S.rJ (af C) (.ptr id 0) (J d) (au K.cells x.aB) (J x.aB.length) Q) ([J i],H1):=by
     intro r;induction r with
     | nil=>intro i s' H1 t o hk ha he;have hle:=er t;refine aC.step ?_;simp only[S.rJ,aF,bD,T,aD];rw[ee];rw[hd]at he;exact hQ H1 hk (by rw[←he];exact ha)
     | cons p r al=>
      intro i s' H1 t o hk ha he;obtain⟨am,hp,an⟩:=ed t;have L:=aaH hp;refine aC.step ?_;simp only[S.rJ,aF,bD,T,aD];rw[dW,cQ am];simp only[T];rw[dD K.len (by decide) _ hp];simp only[T,aR,aL,a_];rw[cS _ _ _ 2 p.len p.scalar rfl];simp only[T,W,YI];have eK:=ha.push (.row p.cells);have ao:=hk.trans (b7.push id H1 (.row p.cells));have ap:O (H1.push (.row p.cells)) 1 false (.ptr H1.n 1)=some (au ax.cells p.bc):=by rw[eL,K.bF];rfl
      simp only[ap,T,cU];rw[hd,R0]at he;have inner:∀(q:List ax)(j:Nat)(s2:u)(a:Z),p.bc.drop j=q→dJ s s2→b7 id H a→At a id (.row (b5 vars s2 loc))→hd vars (jH vars s2 d q) d r=hd vars (ka vars s k x) d x.aB →
        aC (S.vt (af C) (.ptr id 0) (J d) (au ax.cells p.bc) (J p.bc.length) ([J i],H1) (aC (S.rJ (af C) (.ptr id 0) (J d) (au K.cells x.aB) (J x.aB.length) Q)) Q) ([J j],a):=by
       intro q;induction q with
       | nil=>intro j s2 a w f y z l;have hle:=er w;refine aC.step ?_;simp only[S.vt,aF,bD,T,aD];rw[ee];simp only[aT,S.Gu,aF,b4,T];rw[bH,iS i];rw[jH]at l;exact al (i+1) s2 a an f y z l
       | cons e q ar=>
        intro j s2 a w f y z l;obtain⟨av,M,aw⟩:=ed w;have aK:=(X p L).1;refine aC.step ?_;simp only[S.vt,aF,bD,T,aD];rw[dW,cQ av];simp only[T];rw[dD ax.len (by decide) _ M];simp only[T,aR,aL,a_];rw[cS _ _ _ 8 e.len e.scalar rfl];simp only[T];have ay:=z.push (.row e.cells);have P:=y.trans (b7.push id a (.row e.cells));have az:O (a.push (.row e.cells)) 8 true (.ptr a.n 0)=some (.agg e.cells):=by rw[eL,gL e.len]
        simp only[az,T,b4];rw[jH]at l;refine U p L e (aaH M) s2 _ loc _ _ ay ((V.aJ P).still f) (by rw[f.1];exact hb) λb aA a5=>?_;rw[bH,iS j];exact ar (j+1) _ b aw (f.trans (wW vars e s2 _)) (P.trans aA) a5 l
      exact inner p.bc 0 s' _ rfl o ao eK he
    exact main x.aB 0 s1 b rfl o hk ha he
   refine S.nQ hT (oc a4 ?_);simp only[cv];apply iv<;>intro h
   · rw [ak.load,gL (w6 _)];simp only[T];have m:(bK vars x).1=0:=by
      by_cases m:(bK vars x).1=0
      ·exact m
      · have:(s.cJ ((bK vars x).1==0) (bK vars x).1).bI=(bK vars x).1:=by
          unfold u.cJ;rw[aa ⟨by simpa using m,F⟩]
        rw[this]at h;simp at h;exact absurd h m
     have hc:fG (bK vars x)=(bK vars x).2.cells:=by unfold fG;rw[aa m]
     rw[hc];refine Sn aj hT _ _ _ _ ?_;refine hg hT a4 λA D a6=>?_;refine aB _ A ((eI _ _ _).trans (eI _ _ _)) (I.trans D) a6 ?_;unfold ka;simp only[h,aac]
   · refine hg hT a4 λA D a6=>?_;refine aB _ A ((eI _ _ _).trans (eI _ _ _)) (I.trans D) a6 ?_;unfold ka;simp only[h,Bool.true_or]
theorem Sq(n:vars.length≤maxLen)(hv:∀v∈vars,v.ok):∀e:ax,e.ok→w5 C id vars e:=by
 refine ax.ind λe o q he=>?_;obtain⟨⟨r,t⟩,l⟩:=ax.fP he;have w:=aN.fP l;intro s d loc H Q x g hb hQ;refine S.Qz hT ?_;unfold S.f194;simp only[r2,aR,j7,T];refine hg hT x λH1 k1 a1=>?_;simp only[A9,T];refine Sm aj hT e _ _ ?_;refine hg hT a1 λH2 k2 a2=>?_;simp only[lK,lM,Ir,T,b4];refine Iu aj hT _ _ _ _ ?_;refine hg hT a2 λj y a3=>?_;have kk:=k1.trans (k2.trans y);rw[RY]at hQ;change At j id (.row (b5 vars (eB s d e) loc))at a3;have st1:=Ik s d e;generalize eB s d e=s1 at *;refine S.nQ hT (oc a3 ?_);simp only[aD];apply aI<;>intro h
 · rw[aa (by simpa using h)]at hQ;exact hQ j kk a3
 · rw [ab (by simpa using h)]at hQ;simp only[cI,T,aD];have bq:∀(f:u)(a:Z),dJ s f→b7 id H a→At a id (.row (b5 vars f loc))→(∀H',b7 id H H'→At H' id (.row (b5 vars (eC vars f d e.bq) loc))→Q (.aq []) H')→N (S.vT (af C) (.ptr id 0) (J d) (.ae e.cells) Q) [] a:=by
    intro f a b hk ha c;simp only[aT,S.vT,lK,wY,T];exact Iv aj hT r (λk m=>o k m (t k m)) ha ((g.aJ hk).still b) (by rw[b.1];exact hb) λH' k' a'=>c H' (hk.trans k') a'
   have iw:∀(s2:u)(a:Z),dJ s s2→b7 id H a→At a id (.row (b5 vars s2 loc))→(∀H',b7 id H H'→At H' id (.row (b5 vars (eC vars (if e.kind≥4 then kc vars s2 (V (10+e.kind)) d e.place else s2) d e.bq) loc))→Q (.aq []) H') →
     N (S.vU (af C) (.ptr id 0) (J d) (.ae e.cells) Q) [] a:=by
    intro s2 a b hk ha c;simp only[aT,S.vU,lK,lM,r3,T,gZ,aD,b4];apply aI<;>intro h
    · rw[aa (by simpa using h)]at c;refine Iw aj hT n hv l (λp hp i hi=>q p hp i hi ((w.2 p hp).2 i hi)) ha ((g.aJ hk).still b) (by rw[b.1];exact hb) λH' k' a'=>?_;exact bq _ H' (b.trans (A6 vars _ _ _ _)) (hk.trans k') a' c
    · rw[ab (by simpa using h)]at c;exact bq _ a b hk ha c
   apply aI<;>intro h
   · rw[show(if e.kind=2 then s1.cJ (s1.has e.E) 6 else s1)=s1.cJ (s1.has e.E) 6 from aa (by simpa using h)]at hQ;simp only[A8,T];refine rZ hT a3 ((g.aJ kk).still st1) (by rw[st1.1];exact hb) ?_;refine hg hT a3 λa z a4=>?_;exact iw _ a (st1.trans (eI _ _ _)) (kk.trans z) a4 hQ
   · rw[show(if e.kind=2 then s1.cJ (s1.has e.E) 6 else s1)=s1 from ab (by simpa using h)]at hQ;exact iw _ j st1 kk a3 hQ
end
end Rb

namespace Rb
open Go
variable{s:u}{x:ay}{d:Int}{id:Nat}
section
variable{Φ:ai}{H:Z}{Q:ad}
theorem Sr(hT:Cl Φ S.bu)(hQ:∀H',Q (.bool (jj x)) H'):S.f141 Φ (.agg x.cells) H Q:=by
 have fin:∀(b:Bool) H',b=jj x→Q (.bool b) H':=λb H' h=>by rw[h];exact hQ H'
 clear hQ;unfold S.f141;simp only[od,aR,hh,lN,T];refine S.Qx hT (Sk λH1=>?_);simp only[bj,abj,abk,T,aR,aL,a_];rw[cS _ _ _ 6 (Si _) (Sj _) rfl];simp only[T];have at9:=At.new H1 (.row (kF x.kind));generalize H1.push (.row (kF x.kind))=H2 at *;generalize H1.n=d at *;by_cases hk:(decide (1≤x.kind)&&decide (x.kind≤10))=true
 · have hc:kF x.kind=[.bool (eG x.kind).1,.bool (eG x.kind).2.1,.bool (eG x.kind).2.2.1,J (eG x.kind).2.2.2.1,.bool (eG x.kind).2.2.2.2.1,.bool (eG x.kind).2.2.2.2.2]:=by
     unfold kF;rw[aa (by simpa using hk)]
   rw[hc]at at9;unfold jj at fin;rw[hk]at fin ⊢;simp only[abb]at fin;generalize eG x.kind=h at *;obtain⟨j,h1,i,g,f,e⟩:=h;simp only at at9 fin;have k1:∀(b:Bool)(H':Z),At H' d (.row [.bool j,.bool h1,.bool i,J g,.bool f,.bool e])→(∀c a,c=(b&&(e||x.bx.length==0))→Q (.bool c) a)→N (S.pS Φ (.ae x.cells) (.ptr d 0) Q) [.bool b] H':=by
    intro b H' ha hb;have l:O H' 1 false (.ptr d 5)=some (.bool e):=by rw[ha.load];rfl
    simp only[aT,S.pS,aF,cP,cv,W,YI,Bb,T,cU,cI,l,It];cases b
    ·exact hb _ _ rfl
    · rw[aa rfl];apply iv<;>intro h
      ·exact hb _ _ (by rw[h];rfl)
      ·exact hb _ _ (by rw[h];rfl)
   have k2:∀(b:Bool)(H':Z),At H' d (.row [.bool j,.bool h1,.bool i,J g,.bool f,.bool e])→(∀c a,c=(b&&(f||x.bg.length==0)&&(e||x.bx.length==0))→Q (.bool c) a)→N (S.rI Φ (.ae x.cells) (.ptr d 0) Q) [.bool b] H':=by
    intro b H' ha hb;have l:O H' 1 false (.ptr d 4)=some (.bool f):=by rw[ha.load];rfl
    simp only[aT,S.rI,aF,cP,cv,W,YI,w4,T,cU,cI,l,It];cases b
    ·exact k1 _ _ ha λc a hc=>hb c a (by rw[hc];rfl)
    · rw[aa rfl];apply iv<;>intro h
      ·exact k1 _ _ ha λc a hc=>hb c a (by rw[hc,h];rfl)
      ·exact k1 _ _ ha λc a hc=>hb c a (by rw[hc,h];rfl)
   have k:∀(b:Bool)(H':Z),At H' d (.row [.bool j,.bool h1,.bool i,J g,.bool f,.bool e])→(∀c a,c=(b&&((x.bf.length:Int)==g)&&(f||x.bg.length==0)&&(e||x.bx.length==0))→Q (.bool c) a) →
     N (S.pT Φ (.ae x.cells) (.ptr d 0) Q) [.bool b] H':=by
    intro b H' ha hb;have l:O H' 1 false (.ptr d 3)=some (J g):=by rw[ha.load];rfl
    simp only[aT,S.pT,aF,cP,cv,W,YI,mX,T,cU,cI,l];cases b
    ·exact k2 _ _ ha λc a hc=>hb c a (by rw[hc];rfl)
    · rw[aa rfl];exact k2 _ _ ha λc a hc=>hb c a (by rw[hc];rfl)
   have m:∀(b:Bool)(H':Z),At H' d (.row [.bool j,.bool h1,.bool i,J g,.bool f,.bool e])→(∀c a,c=(b&&(i||kD x.place)&&((x.bf.length:Int)==g)&&(f||x.bg.length==0)&&(e||x.bx.length==0))→Q (.bool c) a) →
     N (S.pU Φ (.ae x.cells) (.ptr d 0) Q) [.bool b] H':=by
    intro b H' ha hb;have l:O H' 1 false (.ptr d 2)=some (.bool i):=by rw[ha.load];rfl
    simp only[aT,S.pU,aF,cP,cv,W,YI,oe,T,l];cases b
    ·exact k _ _ ha λc a hc=>hb c a (by rw[hc];rfl)
    · rw [aa rfl];apply iv<;>intro h
      · refine S.Ho hT (Io ?_);exact k _ _ ha λc a hc=>hb c a (by rw[hc,h];rfl)
      ·exact k _ _ ha λc a hc=>hb c a (by rw[hc,h];rfl)
   have o:∀(b:Bool)(H':Z),At H' d (.row [.bool j,.bool h1,.bool i,J g,.bool f,.bool e])→(∀c a,c=(b&&(h1||x.cg==[])&&(i||kD x.place)&&((x.bf.length:Int)==g)&&(f||x.bg.length==0)&&(e||x.bx.length==0))→Q (.bool c) a) →
     N (S.pV Φ (.ae x.cells) (.ptr d 0) Q) [.bool b] H':=by
    intro b H' ha hb;have l:O H' 1 false (.ptr d 1)=some (.bool h1):=by rw[ha.load];rfl
    simp only[aT,S.pV,aF,cP,cv,W,YI,Ba,T,l,iU];cases b
    ·exact m _ _ ha λc a hc=>hb c a (by rw[hc];rfl)
    · rw[aa rfl];apply iv<;>intro h
      ·exact m _ _ ha λc a hc=>hb c a (by rw[hc,h];rfl)
      ·exact m _ _ ha λc a hc=>hb c a (by rw[hc,h];rfl)
   have l:O H2 1 false (.ptr d 0)=some (.bool j):=by rw[at9.load];rfl
   simp only[cP,cv,W,YI,Yx,l,T,mW,iU,a_];apply iv<;>intro h
   ·exact o _ _ at9 λc a hc=>fin c a (by rw[hc,h];rfl)
   ·exact o _ _ at9 λc a hc=>fin c a (by rw[hc,h];rfl)
 · simp only[abQ]at hk;rw[hk];simp only[cP,S.pS,S.rI,S.pT,S.pU,S.pV,aT,aF,ZP,bR];refine fin _ _ ?_;unfold jj;rw[hk];rfl
end
def jm(s:u):Prop:=(s.g.length:Int)≤s.lets∧s.lets≤41∧(s.bI=0→s.lets≤40)
theorem Ss{a:Bool}{e:Int}(b:e≠0)(h:(s.cJ a e).bI=0):s.bI=0∧a=true:=by
 unfold u.cJ at h;split at h
 ·exact absurd h b
 · rename_i hn;refine⟨h,?_⟩;cases a with
   |true=>rfl
   |false=>exact absurd ⟨rfl,h⟩ hn
section
variable(vars:List B)(kw:List UInt8→Bool)
theorem Ix(s:u)(d:Int)(x:ay):dJ s (gM vars kw s d x):=by
 unfold gM;split
 ·exact(eI _ _ _).trans ((eI _ _ _).trans (eI _ _ _))
 · split
   ·exact eI _ _ _
   · split
     ·exact A6 vars _ _ _ _
     ·exact dJ.refl s
theorem Su(a:x.kind=1)(h:(gM vars kw s d x).bI=0):s.lets<40:=by unfold gM at h;rw[aa a]at h;have:=(Ss (by decide) h).2;exact of_decide_eq_true this
theorem Sv{l:List ax}(h:(eC vars s d l).bI=0):s.bI=0:=by
 by_cases a:s.bI=0
 ·exact a
 ·rw[HY vars a]at h;exact absurd h a
theorem Sw(a:x.kind≠1):dJ s (jl s x):=by
 unfold jl;rw[ab a];split
 ·exact(eI _ _ _).trans ((eI _ _ _).trans (eI _ _ _))
 ·exact dJ.refl s
theorem Iy(a:s.bI=0)(hi:jm s):jm (gi vars kw s d x)∧s.lets≤(gi vars kw s d x).lets∧s.g.length≤(gi vars kw s d x).g.length:=by
 obtain⟨i1,i2,i3⟩:=hi;have i4:=i3 a;have s1:dJ s (eC vars (gM vars kw (gh s d x) d x) d x.bf):=(A5 s d x).trans ((Ix vars kw _ d x).trans (wX vars _ _ _));unfold gi;by_cases hk:x.kind=1
 · have hl:(eC vars (gM vars kw (gh s d x) d x) d x.bf).bI=0→s.lets<40:=by
     intro h;have:=Su vars kw hk (Sv vars h);rw[(A5 s d x).2]at this;exact this
   generalize eC vars (gM vars kw (gh s d x) d x) d x.bf=t at *;unfold jl;rw[aa hk];unfold u.AO jm;simp only[abC,aci];obtain⟨s2,b⟩:=s1;rw[s2,b];have e:V (s.lets+1)=s.lets+1:=bH;rw[e];refine⟨⟨by omega,by omega,λk=>?_⟩,by omega,by omega⟩;have:=hl k;omega
 · have s2:=s1.trans (Sw (s:=eC vars (gM vars kw (gh s d x) d x) d x.bf) hk);refine⟨⟨by rw[s2.1,s2.2];exact i1,by rw[s2.2];exact i2,λ_=>by rw[s2.2];exact i4⟩,by rw[s2.2];exact ab_ _,by rw[s2.1];exact sl _⟩
mutual
theorem Iz:∀(x:ay)(s:u)(d:Int),s.bI=0→jm s→jm (stM vars kw s d x)∧s.lets≤(stM vars kw s d x).lets∧s.g.length≤(stM vars kw s d x).g.length
 | .mk kind X E cg aV place bf bg bx,s,d,a,hi=>by rw[stM];have h1:=Iy vars kw (d:=d) (x:= .mk kind X E cg aV place bf bg bx) a hi;generalize gi vars kw s d (.mk kind X E cg aV place bf bg bx)=s1 at *;have b:=r5 bg s1 s1.g.length (V (d+1)) h1.1 (sl _);generalize fp vars kw s1 s1.g.length (V (d+1)) bg=s2 at *;have e1:(s2.at X).lets=s2.lets:=rfl;have c:(s2.at X).g.length=s2.g.length:=rfl;have f:jm (s2.at X):=b.1;generalize s2.at X=t at *;have h:=r5 bx t t.g.length (V (d+1)) f (sl _);exact⟨h.1,by omega,by omega⟩
theorem r5:∀(l:List ay)(s:u)(n:Nat)(d:Int),jm s→n≤s.g.length→jm (fp vars kw s n d l)∧s.lets≤(fp vars kw s n d l).lets∧(fp vars kw s n d l).g.length=n
 | [],s,n,d,hi,hn=>by
  rw[fp];obtain⟨i1,i2,i3⟩:=hi;have e:(s.back n).g.length=n:=by show(s.g.take n).length=n;rw[abX];omega
  exact⟨⟨by rw[e];show(n:Int)≤s.lets;omega,i2,i3⟩,ab_ _,e⟩
 | x :: r,s,n,d,hi,hn=>by
  rw[fp];by_cases a:s.bI=0
  · rw[ab (by simpa using a)];have h1:=Iz x (s.at x.X) d a hi;have e1:(s.at x.X).lets=s.lets:=rfl;have c:(s.at x.X).g=s.g:=rfl;rw[e1,c]at h1;have b:=r5 r (stM vars kw (s.at x.X) d x) n d h1.1 (by omega);exact⟨b.1,by omega,b.2.2⟩
  · rw[aa a];exact r5 r s n d hi hn
end
theorem Sx{l:List ay}(hi:jm s):jm (hV vars kw s d l)∧s.lets≤(hV vars kw s d l).lets∧(hV vars kw s d l).g.length=s.g.length:=r5 vars kw l s _ d hi (sl _)
end
def Frame(id:Nat)(a:I)(H:Z)(b:I)(H':Z):Prop:=H.n≤H'.n∧(∀i o,i≠id→(∀n,a ≠ .row i 0 n 1)→At H i o→At H' i o)∧∀j n,b = .row j 0 n 1→(∃m,a = .row j 0 m 1)∨H.n≤j
theorem Frame.of{a:I}{H H':Z}(h:b7 id H H'):Frame id a H a H':=⟨h.1,λi o hi _ b=>h.2 i o hi b,λj n e=> .inl ⟨n,e⟩⟩
theorem Frame.trans{l0 l1 l2:I}{a b c:Z}(h:Frame id l0 a l1 b)(k:Frame id l1 b l2 c):Frame id l0 a l2 c:=by
 refine⟨xl h.1 k.1,λi o hi hn f=>k.2.1 i o hi (λn e=>?_) (h.2.1 i o hi hn f),λj n e=>?_⟩
 · rcases h.2.2 i n e with⟨m,d⟩|g
   ·exact hn m d
   ·exact absurd f.1 (by omega)
 · rcases k.2.2 j n e with⟨m,d⟩|g
   ·exact h.2.2 j m d
   ·right;have:=h.1;omega
end Rb

namespace Rb
open Go
variable{H:Z}{loc:I}
theorem ay.fP{x:ay}(h:x.ok):x.place.ok∧(x.bf.length≤9223372036854775807∧∀e∈x.bf,e.ok)∧(x.bg.length≤9223372036854775807∧∀y∈x.bg,y.ok)∧(x.bx.length≤9223372036854775807∧∀y∈x.bx,y.ok):=by
 rw[←og];cases x with
 | mk kind X E cg aV place bf bg bx=>obtain⟨_,_,_,_,_,a,b,c,h9,d,f,g⟩:=h;exact⟨a,⟨b,ax.dZ.1 c⟩,⟨h9,ay.dZ.1 d⟩,f,ay.dZ.1 g⟩
theorem ay.ind{P:ay→Prop}(h:∀x:ay,(∀y∈x.bg,P y)→(∀y∈x.bx,P y)→P x):∀x,P x:=by
 have main:∀(n:Nat)(x:ay),sizeOf x<n→P x:=by
  intro n;induction n with
  |zero=>intro x a;omega
  | succ n c=>
   intro x a;refine h x (λy b=>c _ ?_) λy b=>c _ ?_
   · cases x with
     | mk kind X E cg aV place bf bg bx=>have:=abP b;simp at this a ⊢;omega
   · cases x with
     | mk kind X E cg aV place bf bg bx=>have:=abP b;simp at this a ⊢;omega
 exact λx=>main _ x (aaJ _)
theorem Sy(cs:List I)(n:Nat)(v:I):setCells cs n [v]=cs.set n v:=rfl
theorem Sz{id:Nat}{l:List (List UInt8)}{x:List UInt8}{k:List I}(a:At H id (.row k))(p:gk H id loc l)(hb:l.length≤1000){K:ad}
  (b:∀c H',Frame id loc H c H'→At H' id (.row k)→gk H' id c (l++[x])→K c H'):ar (cr H true 1 16 loc (.ak .full 1 [.str x])) K:=by
 have m:fi H 1 (.ak .full 1 [.str x])=some (1,[.str x]):=rfl;rcases p with⟨rfl,rfl⟩|⟨j,cs,rfl,d,f,r,g⟩
 · refine⟨.row H.n 0 1 1,H.push (.row [.str x]),rfl,?_⟩;refine b _ _ ⟨YB _,λi o _ _ h=>h.push _,λj n e=>?_⟩ (a.push _) (.inr ⟨H.n,[.str x],rfl,YL a.lv,At.new H _,sl _,rfl⟩);cases e;right;exact sl _
 · by_cases hc:l.length+1≤cs.length
   · refine ⟨.row j 0 (l.length+1) 1,H.set j (.row (setCells cs (l.length*1) [.str x])),?_,?_⟩
     · simp only[cr,m,f.2];simp only[aaG,acj,I.scalar,ack,not_true_eq_false,bR];rw[eM,ab (by simp only[abz];exact⟨trivial,trivial,by omega,by omega⟩),cG]
     · rw [acm,Sy];refine b _ _ ⟨sl _,λi o hi hn h=>h.bZ (λe=>hn l.length (by rw[e])) _,λi n e=>?_⟩ (a.bZ (YL d) _) (.inr ⟨j,cs.set l.length (.str x),by simp,d,f.set _,by simpa using hc,?_⟩)
       · cases e;left;exact⟨_,rfl⟩
       · rw[abC,aci,abL,YQ (by omega),acn (by omega),g];simp
   · have q:cs.length=l.length:=by omega
     refine⟨.row H.n 0 (l.length+1) 1,(H.set j .gone).push (.row (cs++[.str x])),?_,?_⟩
     · simp only[cr,m,f.2];simp only[aaG,acj,I.scalar,ack,not_true_eq_false,bR];rw[eM,ab (by simp only[abz];exact⟨trivial,trivial,by omega,by omega⟩),bw,cG]
     · refine b _ _ ⟨by simp,λi o hi hn h=>(h.bZ (λe=>hn l.length (by rw[e])) _).push _,λi n e=>?_⟩ ((a.bZ (YL d) _).push _) (.inr ⟨H.n,cs++[.str x],by simp,YL a.lv,?_,by simp;omega,?_⟩)
       · cases e;right;exact sl _
       ·exact At.new (H.set j .gone) _
       · rw[abC,aci,abG (by simp;omega)];rw[←q,abu]at g;rw[g];simp
def IA(C:Ctx)(id:Nat)(vars:List B)(kw:List UInt8→Bool)(x:ay):Prop:=
 ∀ (s:u) (d:Int) (loc:I) (H:Z) (Q:ad),s.bI=0→jm s→At H id (.row (b5 vars s loc))→gk H id loc s.g →
  (∀H' a,Frame id loc H a H'→At H' id (.row (b5 vars (stM vars kw s d x) a))→gk H' id a (stM vars kw s d x).g→Q (.aq []) H')→af C 99 [.ptr id 0,.agg x.cells,J d] H Q
section
variable{C:Ctx}(aj:bN C)(hT:Cl (af C) S.bu){id:Nat}{vars:List B}{kw:List UInt8→Bool}
include aj hT
theorem SA(x:ay):bB (af C) 141 [.agg x.cells] (.bool (jj x)):=bB.of aj (by simp[I.bA,I.bb,ay.bb]) rfl λQ hQ=>S.P5 hT (Sr hT hQ)
theorem Bf{l:List ay}(hl:l.length≤9223372036854775807)(hS:∀x∈l,IA C id vars kw x){s:u}{d:Int}{Q:ad}(hi:jm s)(w:At H id (.row (b5 vars s loc)))(y:gk H id loc s.g)
  (hQ:∀H' q,Frame id loc H q H'→At H' id (.row (b5 vars (hV vars kw s d l) q))→gk H' id q (hV vars kw s d l).g→Q (.aq []) H'):af C 64 [.ptr id 0,au ay.cells l,J d] H Q:=by
 refine S.Pm hT ?_;unfold S.f64;simp only[aZ,W,T,YI];rw[w.load,show bU (b5 vars s loc) 1 1 false=some loc from rfl];simp only[T];have hlen:∀{H:Z}{lc:I}{xs:List (List UInt8)},gk H id lc xs→bp false lc=some (J xs.length):=by
  intro H lc xs h;rcases h with⟨rfl,rfl⟩|⟨j,cs,rfl,_⟩
  ·rfl
  ·rfl
 rw[hlen y];simp only[T,cU];have main:∀(r:List ay)(i:Nat)(s':u)(a:I)(H1:Z),l.drop i=r→jm s'→s.g.length≤s'.g.length→Frame id loc H a H1→At H1 id (.row (b5 vars s' a))→gk H1 id a s'.g→fp vars kw s' s.g.length d r=hV vars kw s d l →
   aC (S.rD (af C) (.ptr id 0) (au ay.cells l) (J d) (J s.g.length) (J l.length) Q) ([J i],H1):=by
  intro r;induction r with
  | nil =>
   intro i s' a H1 t o c hf ha p he;have hle:=er t;refine aC.step ?_;simp only[S.rD,aF,bD,T,aD];rw[ee];simp only[aT,S.Fq,aZ,W,T,YI];rw[ha.load,show bU (b5 vars s' a) 1 1 false=some a from rfl];simp only[T];rw[fp]at he;have cut:∃b,du 1 a none (some (J s.g.length)) none=some b∧Frame id a H1 b H1∧(∀cs,At (H1.set id (.row cs)) id (.row cs)→gk (H1.set id (.row cs)) id b (s'.g.take s.g.length))∧b.known=true∧b.cells=[b]∧b.scalar=true:=by
    rcases p with⟨rfl,h⟩|⟨j,cs,rfl,z,F,ak,G⟩
    · have k:s.g.length=0:=by rw[h]at c;simpa using c
      refine⟨aS,?_,⟨sl _,λ_ _ _ _ h=>h,λ_ _ e=>by cases e⟩,λ_ _=> .inl ⟨rfl,by rw[h];simp⟩,rfl,rfl,rfl⟩;rw[k];rfl
    · refine ⟨.row j 0 s.g.length 1,?_,⟨sl _,λ_ _ _ _ h=>h,λi n e=>by cases e;exact .inl ⟨_,rfl⟩⟩,λcs' _=> .inr ⟨j,cs,?_,z,F.bZ z _,?_,?_⟩,rfl,rfl,rfl⟩
      · simp only[du,eo];rw[cG];simp only[aco];rw[aa ⟨Yt _,by omega,trivial⟩,aa (.inl trivial)];simp
      ·rw[abX,acp c]
      ·rw[abX];omega
      ·rw[abX,acp c,acq,←G,acr,acp c]
   obtain⟨b,e1,f2,l2,g1,g2,g3⟩:=cut;rw[e1];simp only[T];rw[ha.store,aa ⟨g1,by rw[g2];rfl,by rw[g2];simp[g3],by simp[b5]⟩,g2];simp only[T];have K:setCells (b5 vars s' a) 1 [b]=b5 vars (s'.back s.g.length) b:=rfl;rw[K];refine hQ _ b ((hf.trans f2).trans (Frame.of (b7.set id H1 _))) (by rw[←he];exact ha.set _) ?_;rw[←he];exact l2 _ (ha.set _)
  | cons x r L=>
   intro i s' a H1 t o c hf ha p he;obtain⟨M,A,P⟩:=ed t;have R:=aaH A;refine aC.step ?_;simp only[S.rD,aF,bD,T,aD];rw[dW,cQ M];simp only[T];rw[dD ay.len (by decide) _ A];simp only[T,aR,aL,a_];rw[cS _ _ _ 10 x.len x.scalar rfl];simp only[T,W,YI];have eK:=ha.push (.row x.cells);have v:b7 id H1 (H1.push (.row x.cells)):=b7.push id H1 (.row x.cells);have B:=At.new H1 (.row x.cells);have U:H1.n≠id:=YL ha.lv;have next:∀(s2:u)(m:I)(f:Z),jm s2→s.g.length≤s2.g.length→Frame id loc H m f→At f id (.row (b5 vars s2 m))→gk f id m s2.g→fp vars kw s2 s.g.length d r=hV vars kw s d l →
     N (S.uT (af C) ([J i],H1) (aC (S.rD (af C) (.ptr id 0) (au ay.cells l) (J d) (J s.g.length) (J l.length) Q)) Q) [] f:=by
    intro s2 m f i3 V f3 a3 l3 Y;simp only[aT,S.uT,aF,b4,T];rw[bH,iS i];exact L (i+1) s2 m f P i3 V f3 a3 l3 Y
   rw[fp]at he;generalize H1.push (.row x.cells)=H2 at *;generalize H1.n=D at *;refine S.nQ hT (oc eK ?_);simp only[ec,T,aD];apply aI<;>intro h
   · have k:s'.bI=0:=by simpa using h
     rw[ab (by simpa using k)]at he;have ac:O H2 1 false (.ptr D 1)=some (J x.X):=by rw[B.load,ay.bF,aN.bF];rfl
     simp only[ac,T,aZ];rw[eK.store,aa ⟨rfl,rfl,rfl,by simp[b5]⟩];simp only[T];have ae:setCells (b5 vars s' a) 3 (J x.X).cells=b5 vars (s'.at x.X) a:=rfl;rw[ae];have a4:At (H2.set id (.row (b5 vars (s'.at x.X) a))) id (.row (b5 vars (s'.at x.X) a)):=eK.set _;have E:b7 id H1 (H2.set id (.row (b5 vars (s'.at x.X) a))):=v.trans (b7.set id H2 _);have ag:At (H2.set id (.row (b5 vars (s'.at x.X) a))) D (.row x.cells):=B.bZ U _;generalize H2.set id (.row (b5 vars (s'.at x.X) a))=f at *;rw[ag.load,gL x.len];simp only[T];have inv:=Iz vars kw x (s'.at x.X) d k o;refine hS x R (s'.at x.X) d a f _ k o a4 (p.aJ E) λah ai f5 a5 aj=>?_;exact next _ ai ah inv.1 (xl c inv.2.2) ((hf.trans (Frame.of E)).trans f5) a5 aj he
   · have k:s'.bI≠0:=by simpa using h
     rw[aa k]at he;exact next s' a H2 o c (hf.trans (Frame.of v)) eK (p.aJ v) he
 exact main l 0 s loc H rfl hi (sl _) (Frame.of (b7.refl id H)) w y rfl
theorem SB(ai:vars.length≤maxLen)(hv:∀v∈vars,v.ok)(fe:∀x,bB (af C) 96 [.str x] (.bool (kw x))):∀x:ay,x.ok→IA C id vars kw x:=by
 refine ay.ind λx av aw az=>?_;obtain⟨al,⟨aA,aB⟩,⟨aC,aE⟩,aG,aH⟩:=ay.fP az;have aK:=aN.fP al;have am:∀e:ax,e.ok→w5 C id vars e:=Sq aj hT ai hv;intro s d loc H Q aL hi aM n hQ;have hb:s.g.length≤1000:=by have:=hi.1;have:=hi.2.1;omega
 have an:=Iy vars kw (d:=d) (x:=x) aL hi;rw[stM_eq]at hQ;refine S.PE hT ?_;unfold S.f99;simp only[od,aR,j7,T];refine hg hT aM λH1 k1 a1=>?_;simp only[Is,T];refine SA aj hT x _ _ ?_;refine hg hT a1 λH2 k2 a2=>?_;simp only[hh,lN,wZ,T];refine Iu aj hT _ _ _ _ ?_;refine hg hT a2 λR aO a3=>?_;have kk:=k1.trans (k2.trans aO);change At R id (.row (b5 vars (gh s d x) loc))at a3;have st1:=A5 s d x;have tail:∀(B:I)(c:Z),Frame id loc H B c→At c id (.row (b5 vars (gi vars kw s d x) B))→gk c id B (gi vars kw s d x).g→N (S.rH (af C) (.ptr id 0) (J d) (.ae x.cells) Q) [] c:=by intro B c f4 a4 l4;generalize gi vars kw s d x=ao at *;simp only[aT,S.rH,hh,w4,T,b4];have b1:=Sx vars kw (d:=V (d+1)) (l:=x.bg) an.1;refine Bf aj hT aC (λy w=>av y w (aE y w)) an.1 a4 l4 λo U f5 a5 aP=>?_;simp only[A_,T,aZ,W,YI];change At o id (.row (b5 vars (hV vars kw ao (V (d+1)) x.bg) U))at a5;generalize hV vars kw ao (V (d+1)) x.bg=a at *;rw[a5.store,aa ⟨rfl,rfl,rfl,by simp[b5]⟩];simp only[T];have aQ:setCells (b5 vars a U) 3 (J x.X).cells=b5 vars (a.at x.X) U:=rfl;rw[aQ];simp only[T,hh,Bb];refine Bf aj hT aG (λy w=>aw y w (aH y w)) (s:=a.at x.X) b1.1 (a5.set _) (aP.aJ (b7.set id o _)) λm f f6 a6 D=>?_;exact hQ m f (((f4.trans f5).trans (Frame.of (b7.set id o _))).trans f6) a6 D
 have iw:∀(c:Z),b7 id H c→At c id (.row (b5 vars (gM vars kw (gh s d x) d x) loc))→N (S.pQ (af C) (.ptr id 0) (J d) (.ae x.cells) Q) [] c:=by
  intro c k a4;have st2:=st1.trans (Ix vars kw (gh s d x) d x);simp only[aT,S.pQ,hh,mX,T];refine Iv aj hT aA (λe he=>am e (aB e he)) a4 ((n.aJ k).still st2) (by rw[st2.1];exact hb) λo Y a5=>?_;have t:=st2.trans (wX vars x.bf (gM vars kw (gh s d x) d x) d);have q:=k.trans Y;have aS:gi vars kw s d x=jl (eC vars (gM vars kw (gh s d x) d x) d x.bf) x:=rfl;rw[aS]at tail;generalize eC vars (gM vars kw (gh s d x) d x) d x.bf=a at *;simp only[lN,T,cI,aD];apply aI<;>intro h
  · have F:x.kind=1:=by simpa using h
    have z:jl a x=a.AO x.E:=by unfold jl;rw[aa F]
    rw[z]at tail;simp only[aZ,W,T,YI];rw[a5.load,show bU (b5 vars a loc) 1 1 false=some loc from rfl];simp only[T,hh,mW];rw[show dk o false 1 1 [.str []] [(0,1,.str x.E)]=some (.ak .full 1 [.str x.E],o)from rfl];simp only[aR];refine Sz a5 ((n.aJ q).still t) (by rw[t.1];exact hb) λf m f6 a6 D=>?_;have A:f.known=true∧f.cells=[f]∧f.scalar=true:=by
     rcases D with⟨rfl,_⟩|⟨j,cs,rfl,_⟩
     ·exact⟨rfl,rfl,rfl⟩
     ·exact⟨rfl,rfl,rfl⟩
    rw[a6.store,aa ⟨A.1,by rw[A.2.1];rfl,by rw[A.2.1];simp[A.2.2],by simp[b5]⟩,A.2.1];simp only[T];have aU:setCells (b5 vars a loc) 1 [f]=b5 vars a f:=rfl;rw[aU];have a7:At (m.set id (.row (b5 vars a f))) id (.row (b5 vars a f)):=a6.set _;have ac:b7 id m (m.set id (.row (b5 vars a f))):=b7.set id m _;generalize m.set id (.row (b5 vars a f))=ap at *;rw[a7.load,show bU (b5 vars a f) 2 1 false=some (J a.lets)from rfl];simp only[T,b4];rw[a7.store,aa ⟨rfl,rfl,rfl,by simp[b5]⟩];simp only[T];have G:=ac.trans (b7.set id ap (.row (setCells (b5 vars a f) 2 (J (Y6 .i64 (a.lets+1))).cells)));exact tail f _ (((Frame.of q).trans f6).trans (Frame.of G)) (a7.set _) (D.aJ G)
  · have F:x.kind≠1:=by simpa using h
    apply aI<;>intro r
    · have ad:x.kind=5:=by simpa using r
      have z:jl a x=((a.cJ (a.has x.E) 6).cJ ((a.cJ (a.has x.E) 6).has x.cg) 6).cJ (!(x.E==x.cg)) 7:=by
       unfold jl;rw[ab F,aa ad];have:(a.cJ (a.has x.E) 6).has x.cg=a.has x.cg:=by unfold u.has;rw[(eI a _ _).1]
       rw[this]
      rw[z]at tail;simp only[mW,Ba,T];refine rZ hT a5 ((n.aJ q).still t) (by rw[t.1];exact hb) ?_;refine hg hT a5 λm K a6=>?_;have ag:=t.trans (eI a (a.has x.E) 6);refine rZ hT a6 ((n.aJ (q.trans K)).still ag) (by rw[ag.1];exact hb) ?_;refine hg hT a6 λap ac a7=>?_;simp only[rS,T];refine hg hT a7 λaV G a8=>?_;have aq:=q.trans (K.trans (ac.trans G));refine tail loc aV (Frame.of aq) a8 ((n.aJ aq).still (ag.trans ((eI _ _ _).trans (eI _ _ _))))
    · have ad:x.kind≠5:=by simpa using r
      have z:jl a x=a:=by unfold jl;rw[ab F,ab ad]
      rw[z]at tail;exact tail loc o (Frame.of q) a5 ((n.aJ q).still t)
 have ah:gM vars kw (gh s d x) d x=gM vars kw (gh s d x) d x:=rfl
 conv at ah=>rhs;unfold gM
 rw[ah]at iw;clear ah;generalize gh s d x=s1 at *;simp only[lN,T,cI,aD];apply aI<;>intro h
 · rw [aa (by simpa using h)]at iw;have ar:∀(b:Bool)(c:Z),b=(fk x.E&&!kw x.E)→b7 id H c→At c id (.row (b5 vars (s1.cJ b 6) loc))→N (S.vf (af C) (.ptr id 0) (J d) (.ae x.cells) Q) [] c:=by
    intro b c L k a4;rw[←L]at iw;have st2:=st1.trans (eI s1 b 6);have aW:(s1.cJ b 6).has x.E=s1.has x.E:=by unfold u.has;rw[(eI s1 b 6).1]
    have aX:((s1.cJ b 6).cJ (!s1.has x.E) 7).lets=s1.lets:=((eI s1 b 6).trans (eI _ _ _)).2;simp only[aT,S.vf,hh,mW,T];refine rZ hT a4 ((n.aJ k).still st2) (by rw[st2.1];exact hb) ?_;rw[aW];simp only[ec,T];refine hg hT a4 λo Y a5=>?_;simp only[aZ,W,T,YI];rw[a5.load,show bU (b5 vars ((s1.cJ b 6).cJ (!s1.has x.E) 7) loc) 2 1 false=some (J ((s1.cJ b 6).cJ (!s1.has x.E) 7).lets)from rfl,aX];simp only[T,bD];refine hg hT a5 λm K a6=>?_;exact iw m (k.trans (Y.trans K)) a6
   simp only[mW,T];refine Aw aj hT x.E _ _ ?_;simp only[cP];apply ite_bool<;>intro hn
   · refine fe x.E _ _ ?_;simp only[ec,T];refine hg hT a3 λc k a4=>?_;exact ar _ c (by rw[hn];rfl) (kk.trans k) a4
   · refine hg hT a3 λc k a4=>?_;exact ar _ c (by rw[hn];rfl) (kk.trans k) a4
 · rw [ab (by simpa using h)]at iw;apply aI<;>intro au
   · rw[aa (by simpa using au)]at iw;simp only[mW,T];refine rZ hT a3 ((n.aJ kk).still st1) (by rw[st1.1];exact hb) ?_;refine hg hT a3 λc k a4=>?_;exact iw c (kk.trans k) a4
   · rw [ab (by simpa using au)]at iw;have M:∀b:Bool,(b=true↔(x.kind=3∨x.kind=4∨x.kind=5∨x.kind=6))→N (S.pR (af C) (.ptr id 0) (J d) (.ae x.cells) Q) [.bool b] R:=by
      intro b L;simp only[aT,S.pR,aF,aD,hh,lN,oe,T];apply aI<;>intro h
      · rw[aa (L.1 h)]at iw;refine Iw aj hT ai hv al (λp hp i hi=>am i ((aK.2 p hp).2 i hi)) a3 ((n.aJ kk).still st1) (by rw[st1.1];exact hb) λH' k' a'=>?_;exact iw H' (kk.trans k') a'
      · rw[ab λy=>h (L.2 y)]at iw;exact iw R kk a3
     apply aI<;>intro O
     · refine M _ ?_;simp only[bG]at O;simp[O]
     · apply aI<;>intro P
       · refine M _ ?_;simp only[bG]at P;simp[P]
       · apply aI<;>intro r
         · refine M _ ?_;simp only[bG]at r;simp[r]
         · refine M _ ?_;simp only[bG]at O P r;simp[O,P,r]
end
end Rb

namespace Rb
open Go
variable{n k:Int}{p:PL}
theorem r6{n step:Int}(a:0≤n)(b:n≤1000000000)(c:1≤step)(d:step≤1000000):n≤ca n step∧ca n step≤n+step-1:=by rw[RJ a b c d];have e:=Int.mul_ediv_add_emod (n+step-1) step;have f:=ab5 (n+step-1) (show 0<step by omega);have g:=ab3 (n+step-1) (show step≠0 by omega);rw[ab6]at e;omega
def r7(k:Int)(p:PL):Prop:=0≤p.bit∧p.bit≤k*1000000∧0≤p.size∧p.size≤k*1000000∧1≤p.bP∧p.bP≤16
theorem IB(a:0≤n)(b:n≤1000000000):V (n.tdiv 8)=n/8:=by rw[ab7 a];exact bH
theorem Bg(c:0≤p.bit)(d:p.bit≤(k+1)*1000000)(h:0≤p.size)(i:p.size≤k*1000000)(f:1≤p.bP)(g:p.bP≤16)(j:0≤k)(l:k≤40):r7 (k+1) (lB p):=by
 obtain⟨a,b⟩:=r6 (n:=p.bit) (step:=8) c (by omega) (by omega) (by omega);have e:V ((ca p.bit 8).tdiv 8)=ca p.bit 8/8:=IB (by omega) (by omega);refine⟨c,d,?_,?_,f,g⟩
 · show 0≤max p.size _;omega
 · show max p.size (V ((ca p.bit 8).tdiv 8))≤_;rw[e];omega
theorem SC{packed:Bool}{kind:Int}{q:List (List UInt8)}{f:aw}{g:Int×Int}(hp:r7 k p)(c:0≤k)(j:k≤40)(hs:gb packed q f=0)(x:0≤g.1)(y:g.1≤65536)(z:1≤g.2)(A:g.2≤16):r7 (k+1) (im packed kind p f g):=by
 obtain⟨b1,b2,s1,s2,a1,a2⟩:=hp;have hb:f.bits=true→(f.type.size=1∨f.type.size=2∨f.type.size=4∨f.type.size=8)∧0≤f.aM∧f.aM≤64:=by
  intro b;rw[mQ]at hs;split at hs
  ·cases hs
  split at hs
  ·cases hs
  split at hs
  ·rename_i hz;exact absurd hs hz
  rename_i hz;split at hs
  ·cases hs
  rename_i hn;split at hs
  ·cases hs
  rename_i hw;have r:f.type.kind=1:=by
   by_cases c:f.type.kind=1
   ·exact c
   ·exact absurd (.inr ⟨b,.inl c⟩) hn
  have d:c8 f.type=0:=by simpa using hz
  have m:f.type.size=1∨f.type.size=2∨f.type.size=4∨f.type.size=8:=by
   rw[gD,r]at d;split at d
   ·cases d
   · simp only[a_]at d;split at d
     · rename_i hp;simp[fm]at hp;omega
     ·cases d
  have B:¬f.aM<0∧¬8*f.type.size<f.aM:=⟨λh=>hw ⟨b,.inl h⟩,λh=>hw ⟨b,.inr (.inl h)⟩⟩
  exact⟨m,by omega,by omega⟩
 have s:1≤eN packed f g.2∧eN packed f g.2≤16:=by
  unfold eN;split
  ·omega
  · split
    · rename_i b;have:=hb b;omega
    ·omega
 unfold im;simp only;generalize i:({p with bP:=max p.bP (eN packed f g.2),bit:=if kind=4 then 0 else p.bit}:PL)=a;have c1:0≤a.bit:=by rw[←i];show 0≤(if kind=4 then 0 else p.bit);split<;>omega
 have c2:a.bit≤k*1000000:=by rw[←i];show(if kind=4 then 0 else p.bit)≤_;split<;>omega
 have c3:a.size=p.size:=by rw[←i]
 have e:1≤a.bP∧a.bP≤16:=by rw[←i];show 1≤max p.bP _∧max p.bP _≤16;omega
 by_cases b:f.bits=true
 · rw [aa b];obtain⟨m,w1,w2⟩:=hb b;have l:V (8*f.type.size)=8*f.type.size:=bH;obtain⟨t,u⟩:=r6 (n:=a.bit) (step:=8*f.type.size) c1 (by omega) (by omega) (by omega);unfold lA;split
   · refine Bg ?_ ?_ ?_ ?_ ?_ ?_ c j
     ·show 0≤ca a.bit (V (8*f.type.size));rw[l];omega
     ·show ca a.bit (V (8*f.type.size))≤_;rw[l];omega
     ·show 0≤a.size;omega
     ·show a.size≤_;omega
     ·exact e.1
     ·exact e.2
   · have o1:a.bit≤hR a f∧hR a f≤a.bit+63:=by
       unfold hR;rw[l];split<;>omega
     have o:V (hR a f+f.aM)=hR a f+f.aM:=bH;refine Bg ?_ ?_ ?_ ?_ ?_ ?_ c j
     ·show 0≤V (hR a f+f.aM);rw[o];omega
     ·show V (hR a f+f.aM)≤_;rw[o];omega
     ·show 0≤a.size;omega
     ·show a.size≤_;omega
     ·exact e.1
     ·exact e.2
 · rw[ab b];unfold wI;obtain⟨t,u⟩:=r6 (n:=a.bit) (step:=8) c1 (by omega) (by omega) (by omega);have e1:V ((ca a.bit 8).tdiv 8)=ca a.bit 8/8:=IB (by omega) (by omega);obtain⟨v1,v2⟩:=r6 (n:=ca a.bit 8/8) (step:=eN packed f g.2) (by omega) (by omega) s.1 (by omega);have v:V (ca (ca a.bit 8/8) (eN packed f g.2)+g.1)=ca (ca a.bit 8/8) (eN packed f g.2)+g.1:=bH;have w:V (8*(ca (ca a.bit 8/8) (eN packed f g.2)+g.1))=8*(ca (ca a.bit 8/8) (eN packed f g.2)+g.1):=bH;rw[e1,v,w];refine Bg ?_ ?_ ?_ ?_ ?_ ?_ c j
   ·show 0≤8*(ca (ca a.bit 8/8) (eN packed f g.2)+g.1);omega
   ·show 8*(ca (ca a.bit 8/8) (eN packed f g.2)+g.1)≤_;omega
   ·show 0≤a.size;omega
   ·show a.size≤_;omega
   ·exact e.1
   ·exact e.2
theorem IC{packed:Bool}{kind:Int}:∀{l:List aw}{a:List (List UInt8)}{k:Int}{p q:PL},r7 k p→0≤k→k+l.length≤40→fo packed a l=0 →
  (∀f∈l,c8 f.type=0→(A f.type).2=true→0≤(A f.type).1.1∧(A f.type).1.1≤65536∧1≤(A f.type).1.2∧(A f.type).1.2≤16)→dY packed kind p l=some q→r7 40 q
 | [],a,k,p,q,hp,hk,b,_,_,h=>by simp only[dY,Yb.injEq]at h;subst h;obtain⟨b1,b2,s1,s2,a1,a2⟩:=hp;simp at b;exact⟨b1,by omega,s1,by omega,a1,a2⟩
 | f :: r,a,k,p,q,hp,hk,b,hs,hf,h=>by
  simp only[dY]at h;split at h
  · rename_i c;rw[p8]at c h;have d:gb packed a f=0∧fo packed (a++[f.E]) r=0:=by
     simp only[fo]at hs;by_cases hz:gb packed a f=0
     ·rw[ab (by simpa using hz)]at hs;exact⟨hz,hs⟩
     ·rw[aa hz]at hs;exact absurd hs hz
    have e:c8 f.type=0:=rT hs f (by simp);obtain⟨g1,g2,g3,g4⟩:=hf f (by simp) e c;simp only[abD]at b;exact IC (k:=k+1) (SC hp hk (by omega) d.1 g1 g2 g3 g4) (by omega) (by omega) d.2 (λg i=>hf g (by simp[i])) h
  ·cases h
theorem Bh:∀t:U,c8 t=0→(A t).2=true→0≤(A t).1.1∧(A t).1.1≤65536∧1≤(A t).1.2∧(A t).1.2≤16:=by
 refine U.ind λt c d hs h=>?_;rw[lC]at h ⊢;split at h
 · rename_i b;rw[aa b];rw[gD]at hs;split at hs
   ·cases hs
   · have hp:fm t.size 8=true∨fm t.size 16=true:=by
       rcases b with h1|h1
       · rw[aa h1]at hs;split at hs
         ·exact .inl ‹_›
         ·cases hs
       · rw[bw,aa h1]at hs;split at hs
         ·exact .inr ‹_›
         ·cases hs
     show 0≤t.size∧t.size≤65536∧1≤t.size∧t.size≤16;rcases hp with hp|hp<;>(simp[fm]at hp;omega)
 · rename_i b;rw[ab b];split at h
   · rename_i a;rw[aa a];obtain⟨e,he,g⟩:=lz hs a;have hc:1≤t.ba∧t.ba≤65536:=by
      rw[gD,a]at hs;split at hs
      ·cases hs
      · simp at hs;split at hs
        ·cases hs
        ·omega
     rw[he]at h ⊢;simp only[fc,X1]at h ⊢;obtain⟨h,hle⟩:=h;have hle:=of_decide_eq_true hle;obtain⟨g1,g2,g3,g4⟩:=d e (by rw[he];simp) g h;have hm:0≤(A e).1.1*t.ba:=acf g1 (by omega);have l:(A e).1.1*t.ba≤65536*65536:=acg g2 hc.2 (by omega) (by omega);have e1:V ((A e).1.1*t.ba)=(A e).1.1*t.ba:=bH;rw[e1]at hle ⊢;exact⟨hm,hle,g3,g4⟩
   · rename_i a;rw[ab a];cases hp:dY t.packed t.kind ⟨0,1,[],0⟩ t.aE with
     |none=>rw[hp]at h;cases h
     | some p =>
      rw[hp]at h;simp only[dU]at h ⊢;have i:t.kind=3∨t.kind=4:=by rcases nX hs with h|h|h|h|h<;>omega
      have j:fo t.packed [] t.aE=0:=by
       rw[gD]at hs;split at hs
       ·cases hs
       · rw [bw,bw,bw]at hs;first
          |exact hs
          | (split at hs
             ·cases hs
             ·exact hs)
      obtain⟨b1,b2,s1,s2,a1,a2⟩:=IC (k:=0) (p:=⟨0,1,[],0⟩) ⟨by decide,by decide,by decide,by decide,by decide,by decide⟩ (by omega) (by have:=(mR hs i).2;omega) j (λf hf=>c f hf) hp;obtain⟨m,o⟩:=r6 (n:=p.size) (step:=p.bP) s1 (by omega) a1 (by omega);exact⟨by omega,h,a1,a2⟩
theorem SD{t:U}(h:(aX t).2=0):0≤(aX t).1.1∧(aX t).1.1≤65536∧1≤(aX t).1.2∧(aX t).1.2≤16:=by
 unfold aX at h ⊢;split at h
 ·rename_i hs;exact absurd h hs
 · rename_i hs;split at h
   ·cases h
   · rename_i ht;split at h
     ·cases h
     · rename_i a;rw[ab hs,ab ht,ab a];exact Bh t (fD (by simpa using hs)) (by simpa using a)
def z5:List UInt8:=[122,122,122,122,122]
def w7(a b:u):Prop:=a=b∨a.bI=6
theorem w7.refl(a:u):w7 a a:= .inl rfl
theorem w7.bad{a b:u}(h:a.bI=6):w7 a b:= .inr h
section
variable(vars:List B)(z:B)
variable(kw:List UInt8→Bool)
end
end Rb

namespace Rb
open Go
theorem jJ(a b:List I):I.cf (a++b)=I.cf a++I.cf b:=by rw[lr,lr,lr,acs]
mutual
theorem U.gF:∀x:U,I.cf x.cells=x.cells
 | .mk kind size packed aE ba aU=>by simp only[U.cells,I.cf,I.cd,aw.iy aE,U.iy aU]
theorem U.iy:∀xs:List U,I.cf (U.all xs)=U.all xs
 |[]=>rfl
 |x::r=>by rw[U.all,jJ,U.gF x,U.iy r]
theorem aw.gF:∀x:aw,I.cf x.cells=x.cells
 | .mk E type bits aM=>by simp only[aw.cells,I.cf,I.cd,jJ,U.gF type]
theorem aw.iy:∀xs:List aw,I.cf (aw.all xs)=aw.all xs
 |[]=>rfl
 |x::r=>by rw[aw.all,jJ,aw.gF x,aw.iy r]
end
mutual
theorem ax.gF:∀x:ax,I.cf x.cells=x.cells
 | .mk kind n E op aV place bq=>by simp only[ax.cells,I.cf,I.cd,jJ,aN.gF place,ax.iy bq]
theorem ax.iy:∀xs:List ax,I.cf (ax.all xs)=ax.all xs
 |[]=>rfl
 |x::r=>by rw[ax.all,jJ,ax.gF x,ax.iy r]
theorem aN.gF:∀x:aN,I.cf x.cells=x.cells
 | .mk var aB=>by simp only[aN.cells,I.cf,I.cd,K.iy aB]
theorem K.gF:∀x:K,I.cf x.cells=x.cells
 | .mk field bc=>by simp only[K.cells,I.cf,I.cd,ax.iy bc]
theorem K.iy:∀xs:List K,I.cf (K.all xs)=K.all xs
 |[]=>rfl
 |x::r=>by rw[K.all,jJ,K.gF x,K.iy r]
end
theorem w8{α:Type}{cells:α→List I}(h:∀x,I.cf (cells x)=cells x)(xs:List α):(au cells xs).cd=au cells xs:=by
 have:I.cf (xs.flatMap cells)=xs.flatMap cells:=by
  induction xs with
  |nil=>rfl
  |cons x xs a=>rw[abe,jJ,h,a]
 simp only[au,I.cd,this]
theorem B.gF(x:B):I.cf x.cells=x.cells:=by simp only[B.cells,I.cf,I.cd,U.gF]
mutual
theorem ay.gF:∀x:ay,I.cf x.cells=x.cells
 | .mk kind X E cg aV place bf bg bx=>by simp only[ay.cells,I.cf,I.cd,jJ,aN.gF place,w8 ax.gF bf,ay.iy bg,ay.iy bx]
theorem ay.iy:∀xs:List ay,I.cf (ay.all xs)=ay.all xs
 |[]=>rfl
 |x::r=>by rw[ay.all,jJ,ay.gF x,ay.iy r]
end
theorem SE(l:List ay):I.cf (iR l)=iR l:=by simp only[iR,I.cf,w8 ay.gF]
theorem cH.gF(x:cH):I.cf x.cells=x.cells:=by simp only[cH.cells,I.cf,w8 B.gF,w8 SE]
section
variable{Φ:ai}{H:Z}{Q:ad}
theorem SF(hT:Cl Φ S.bu){p:B→Bool}{key:Nat}{bE:List I}{xs:List B}(hf:∀x∈xs,∀(R:ad),R (.bool (p x)) H→Φ key ([.agg x.cells]++bE) H R)(hl:xs.length≤9223372036854775807)
  (hQ:Q (.bool (xs.any p)) H) (a:fS key=none:=by first|assumption|rfl):Φ 97 [au B.cells xs,.fn key bE] H Q:=by
 refine S.PC hT ?_;unfold S.f97;refine S.wc hT (wC hf hl ?_);simp only[gZ,T,wy];exact hQ
theorem SG{w:B}{id:Nat}{v:B}(a:At H id (.row v.cells))(hQ:Q (.bool (w.E==v.E)) H):S.f98 Φ (.agg w.cells) (.ptr id 0) H Q:=by
 unfold S.f98;have hb:aO H false 7 (.agg w.cells)=some (.ae w.cells,H):=by unfold aO;rw[aa ⟨rfl,w.len⟩];rfl
 have l0:O H 1 false (.ae (w.cells.drop 0))=some (.str w.E):=p6 w;have l1:O H 1 false (.ptr id 0)=some (.str v.E):=by rw[a.load];exact p6 v
 rw[hb];simp only[aR,W,T,l0,Yx,l1,iU];exact hQ
end
section
variable{C:Ctx}(aj:bN C)(hT:Cl (af C) S.bu){kw:List UInt8→Bool}(fe:∀x,bB (af C) 96 [.str x] (.bool (kw x)))
include aj hT fe
theorem SH{vars:List B}(hv:∀v∈vars,v.ok){H:Z}{Q:ad}(hQ:∀H',Q (J (kd kw vars)) H'):S.f63 (af C) (au B.cells vars) H Q:=by
 have fin:∀z H',z=kd kw vars→Q (J z) H':=λz H' h=>by rw[h];exact hQ H'
 clear hQ;unfold S.f63;simp only[cU,T,ej,aD];unfold kd at fin;apply aI<;>intro h
 ·exact fin _ _ (by rw[aa (by simp only[dU,gt_iff_lt]at h;omega)])
 · have hl : vars.length≤32:=by simp only[dU,gt_iff_lt]at h;omega
   rw[bw]at fin;have main:∀(r:List B)(i:Nat)(a:Int)(H1:Z),vars.drop i=r→lI kw ((vars.take i).map B.E) a r=lI kw [] 0 vars →
     aC (S.pN (af C) (au B.cells vars) (J vars.length) Q) ([J a,J i],H1):=by
    intro r;induction r with
    | nil=>
     intro i a H1 d he;have hle:=er d;refine aC.step ?_;simp only[S.pN,aF,c4,bD,T,aD];rw[ee];simp only[aT,S.Fo,aF,ej,T,aD];rw[lI]at he;apply aI<;>intro h
     ·exact fin _ _ (by rw[←he,aa (by simpa using h)])
     ·exact fin _ _ (by rw[←he,ab (by simpa using h)])
    | cons v r l=>
     intro i a H1 d he;obtain⟨g,e,m⟩:=ed d;have o:=aaH e;refine aC.step ?_;simp only[S.pN,aF,c4,bD,T,aD];rw[dW,cQ g];simp only[T];rw[dD B.len (by decide) _ e];simp only[T,aR,aL,a_];rw[cS _ _ _ 7 v.len v.scalar rfl];simp only[T,W,YI,Yx];have f:=At.new H1 (.row v.cells);generalize H1.push (.row v.cells)=H2 at *;generalize H1.n=c at *;have l0:O H2 1 false (.ptr c 0)=some (.str v.E):=by rw[f.load];exact p6 v
     have l1:O H2 6 true (.ptr c 1)=some (.agg v.type.cells):=by rw[f.load,Q4 (by rw[v.len];omega)];show bU (v.cells.drop 1) 0 6 true=_;exact gL v.type.len
     simp only[l0,T];rw[lI]at he;have k2:¬(fk v.E=false∨kw v.E=true)→¬((vars.take i).map B.E).contains v.E=true →
       N (S.zO (af C) (.ptr c 0) ([J a,J i],H1) (aC (S.pN (af C) (au B.cells vars) (J vars.length) Q)) Q) [] H2:=by
      intro n1 n2;rw[ab n1,ab n2]at he;simp only[aT,S.zO,W,YI,T,l1];refine wO aj hT v.type (hv v o).2 _ _ ?_;simp only[bj,abj,abk,T,d_,aD];apply aI<;>intro h
      · rw[aa (by simpa using h)]at he;exact fin _ _ he
      · have j:(aX v.type).2=0:=by simpa using h
        rw[ab (by simpa using j)]at he;have hb:=SD j;simp only[aF,b4,fO,jF,T];rw[mc _ _ _ (by omega)];simp only[T,jF,b4,aT,S.Fm,aF,c4];rw[wrap_i64 (n:=(i:Int)+1) (by omega) (by omega),iS i];refine l (i+1) _ H2 m ?_;rw[←he,abL,e];simp[ca]
     have k:∀b:Bool,(b=true↔(fk v.E=false∨kw v.E=true))→N (S.uS (af C) (au B.cells vars) (.ptr c 0) ([J a,J i],H1) (aC (S.pN (af C) (au B.cells vars) (J vars.length) Q)) Q) [.bool b] H2:=by
      intro b hb;simp only[aT,S.uS,aF,c4,aD];apply aI<;>intro h
      · rw[aa (hb.1 h)]at he;exact fin _ _ he
      · have n1:¬(fk v.E=false∨kw v.E=true):=λy=>h (hb.2 y);rw[HH B.len (acu g)];simp only[T];refine SF hT (p:=λw=>w.E==v.E) (λw _ R q=>S.PD hT (SG f q)) (by rw[abX];omega) ?_;simp only[aD];have hc:((vars.take i).any λw=>w.E==v.E)=true↔((vars.take i).map B.E).contains v.E=true:=by
         rw[aav,List.contains_iff_mem,aay];simp only[bG]
        apply aI<;>intro h
        · rw[ab n1,aa (hc.1 h)]at he;exact fin _ _ he
        ·exact k2 n1 λy=>h (hc.2 y)
     refine Aw aj hT v.E _ _ ?_;simp only[ec,T,cv];apply iv<;>intro h
     · simp only[l0,T];refine fe v.E _ _ ?_;refine k _ ?_;simp only[Bool.not_eq_false']at h;simp[h]
     · refine k _ ?_;simp only[Z4]at h;simp[h]
   exact main vars 0 0 H rfl rfl
def ID(r:Int×Int):I:= .agg [J r.1,J r.2]
theorem SI(p:cH)(hp:p.ok):bB (af C) 36 [.agg p.cells] (ID (fq kw p)):=by
 obtain⟨⟨A,hv⟩,ad,ht⟩:=hp;refine bB.of aj (by simp[I.bA,I.bb,cH.bb]) rfl λQ hQ=>S.O7 hT ?_;have fin:∀(a b:Int) H',(a,b)=fq kw p→Q (.agg [J a,J b]) H':=λa b H' h=>by have:=hQ H';rw[←h]at this;exact this
 clear hQ;have E:aO Z.mt false 2 (.agg p.cells)=some (.ae p.cells,Z.mt):=by unfold aO;rw[aa ⟨rfl,rfl⟩];rfl
 have g:∀H,O H 1 false (.ae (p.cells.drop 0))=some (au B.cells p.vars):=λ_=>rfl;have j:∀H,O H 1 false (.ae (p.cells.drop 1))=some (au iR p.dd):=λ_=>rfl;unfold S.f36;simp only[E,aR,aL,a_,W,T,g,cU,ej,cv];generalize ag:Z.mt=H0;have k:=At.new H0 (.row [D,D]);generalize H0.push (.row [D,D])=f at *;generalize H0.n=d at *;have out:∀(a b:Int)(H1:Z),At H1 d (.row [D,D])→(a,b)=fq kw p→Do (Y H1 2 (.ptr d 0) (.agg [J a,J b])) λH2=>Do (O H2 2 true (.ptr d 0)) λx=>Q x H2:=by intro a b H1 ha he;rw[ha.put (n:=2) rfl rfl rfl];simp only[T];rw[(ha.set _).all (n:=2) rfl];simp only[T];exact fin a b _ he
 unfold fq at out;have F : ¬(32<p.vars.length∨p.dd.length<1∨8<p.dd.length)→N (S.zN (af C) (.ae p.cells) (.ptr d 0) Q) [] f:=by
  intro hn;rw[ab hn]at out;simp only[aT,S.zN,W,T,g];refine bB.of aj (by simp[I.bA,j_ B.bb]) rfl (λah G=>S.Pl hT (SH aj hT fe hv G)) _ _ ?_;simp only[d_,T,aD];apply aI<;>intro h
  · rw[aa (by simpa using h)]at out;rw[show bo [D,D] [(1,1,J (kd kw p.vars))]=some (.agg [D,J (kd kw p.vars)])from rfl];simp only[T];exact out 0 _ f k rfl
  · rw [ab (by simpa using h)]at out;simp only[j,T,cU];have main:∀(r:List (List ay)) (i:Nat) (H1:Z),p.dd.drop i=r→At H1 d (.row [D,D])→mT kw p.vars r=mT kw p.vars p.dd →
      aC (S.uK (af C) (.ae p.cells) (.ptr d 0) (au iR p.dd) (J p.dd.length) Q) ([J i],H1):=by
     intro r;induction r with
     | nil=>intro i H1 m ha he;have hle:=er m;refine aC.step ?_;simp only[S.uK,aF,bD,T,aD];rw[ee];simp only[aT,S.E2];rw[show bo [D,D] []=some (.agg [D,D])from rfl];simp only[T];exact out 0 0 H1 ha he
     | cons t r K=>
      intro i H1 m ha he;obtain⟨L,q,M⟩:=ed m;obtain⟨ai,P⟩:=ht t (aaH q);refine aC.step ?_;simp only[S.uK,aF,bD,T,aD];rw[dW,cQ L];simp only[T];have R:O H1 1 false (dN iR 1 p.dd i)=some (au ay.cells t):=wo (c:=λl=>au ay.cells l) H1 q;rw[R];simp only[T,W,g];rw[show bo [aS,aS,D,D,D,D] [(0,1,au B.cells p.vars)]=some (.agg (b5 p.vars s0 aS))from rfl];simp only[T];have hb:aO H1 true 6 (.agg (b5 p.vars s0 aS))=some (.ptr H1.n 0,H1.push (.row (b5 p.vars s0 aS))):=by unfold aO;rw[aa ⟨rfl,rfl⟩];rfl
      rw[hb];simp only[aR];have U:=At.new H1 (.row (b5 p.vars s0 aS));have V:d≠H1.n:=ha.lv;have a3:=ha.push (.row (b5 p.vars s0 aS));generalize H1.push (.row (b5 p.vars s0 aS))=H2 at *;generalize H1.n=id at *;have hm:=og;refine Bf aj hT (kw:=kw) (by omega) (λx X=>SB aj hT A hv fe x (P x X)) (s:=s0) ⟨by decide,by decide,by decide⟩ U (.inl ⟨rfl,rfl⟩) λu ac f5 a5 ak=>?_;have v:=f5.2.1 d _ V (λn e=>by cases e) a3;rw[mT]at he;generalize hV p.vars kw s0 1 t=o at *;refine S.nQ hT (oc a5 ?_);simp only[aD];apply aI<;>intro h
      · rw[aa (by simpa using h)]at he;simp only[aZ,W,T,YI];rw[a5.load,show bU (b5 p.vars o ac) 4 2 true=some (.agg [J o.lG,J o.bI])from rfl];simp only[T];exact out _ _ u v he
      · rw[ab (by simpa using h)]at he;simp only[b4,T];rw[bH,iS i];exact K (i+1) u M v he
    exact main p.dd 0 f rfl k rfl
 have w:∀b:Bool,(b=true↔(32<p.vars.length∨p.dd.length<1∨8<p.dd.length))→N (S.uL (af C) (.ae p.cells) (.ptr d 0) Q) [.bool b] f:=by
  intro b hb;simp only[aT,S.uL,aF,aD];apply aI<;>intro h
  · rw[aa (hb.1 h)]at out;rw[show bo [D,D] [(1,1,J 12)]=some (.agg [D,J 12])from rfl];simp only[T];exact out 0 12 f k rfl
  ·exact F λy=>h (hb.2 y)
 have z:∀b:Bool,(b=true↔(32<p.vars.length∨p.dd.length<1))→N (S.uM (af C) (.ae p.cells) (.ptr d 0) Q) [.bool b] f:=by
  intro b hb;simp only[aT,S.uM,aF,cv,W,T,j,cU,ej];apply iv<;>intro h
  · refine w _ ?_;have hn:¬(32<p.vars.length∨p.dd.length<1):=λy=>by have:=hb.2 y;rw[h]at this;cases this
    simp only[dU,gt_iff_lt];omega
  · refine w _ ?_;have:=hb.1 h;simp only[true_iff];omega
 apply iv<;>intro h
 · simp only[j,T,cU,bD];refine z _ ?_;simp only[decide_eq_false_iff_not,gt_iff_lt]at h;simp only[dU];omega
 · refine z _ ?_;simp only[dU,gt_iff_lt]at h;simp only[true_iff];omega
end
end Rb

namespace Rb
open Go
section
variable{H:Z}{id:Nat}
theorem IE{e:K}(h:At H id (.row e.cells)):O H 1 false (.ptr id 1)=some (au ax.cells e.bc):=by rw[h.load,K.bF];rfl
end
theorem qb(x:aN)(H:Z):aO H false 2 (.agg x.cells)=some (.ae x.cells,H):=by unfold aO;rw[aa ⟨rfl,x.len⟩];rfl
theorem Bi(x:aN)(i:Nat):W i (.ae x.cells)=some (.ae (x.cells.drop i)):=rfl
theorem Bj(x:aN)(H:Z):O H 1 false (.ae (x.cells.drop 0))=some (.str x.var):=by rw[aN.bF];rfl
theorem r8(x:aN)(H:Z):O H 1 false (.ae (x.cells.drop 1))=some (au K.cells x.aB):=by rw[aN.bF];rfl
theorem w9(x:aN)(H:Z):O H 2 true (.ae x.cells)=some (.agg x.cells):=gL x.len
section
variable{C:Ctx}(aj:bN C)(hT:Cl (af C) S.bu)
include aj hT
end
end Rb

namespace Rb
open Go
variable{s s':RS}
structure Kp(s s':RS):Prop where
 aG:s'.aG=s.aG
 pr:s'.pr=s.pr
 X:s'.X=s.X
 st:s.stop=true→s'=s
 fu:0≤s.fuel→s.fuel≤1000000→s'.stop=false→0≤s'.fuel∧s'.fuel≤s.fuel
theorem Kp.refl(s:RS):Kp s s:=⟨rfl,rfl,rfl,λ_=>rfl,λh _ _=>⟨h,ab_ _⟩⟩
theorem Kp.stop(h:Kp s s')(a:s'.stop=false):s.stop=false:=by
 cases hs:s.stop with
 |false=>rfl
 |true=>rw[h.st hs,hs]at a;cases a
theorem Kp.trans{a b c:RS}(h:Kp a b)(k:Kp b c):Kp a c where
 aG:=k.aG.trans h.aG
 pr:=k.pr.trans h.pr
 X:=k.X.trans h.X
 st:=λe=>by have e1:=h.st e;rw[e1]at k;exact k.st e
 fu:=λf h1 d=>by have hb:=k.stop d;have x:=h.fu f h1 hb;have y:=k.fu x.1 (by omega) d;exact⟨y.1,by omega⟩
section
variable(vars:List B)
end
structure Ks(s s':RS):Prop where
 pr:s.pr <+: s'.pr
 st:s.stop=true→s'=s
 fu:0≤s.fuel→s.fuel≤1000000→s'.stop=false→0≤s'.fuel∧s'.fuel≤s.fuel
theorem Kp.ks(h:Kp s s'):Ks s s':=⟨by rw[h.pr];exact List.prefix_refl _,h.st,h.fu⟩
theorem Ks.refl(s:RS):Ks s s:=(Kp.refl s).ks
theorem Ks.stop(h:Ks s s')(a:s'.stop=false):s.stop=false:=by
 cases hs:s.stop with
 |false=>rfl
 |true=>rw[h.st hs,hs]at a;cases a
theorem Ks.trans{a b c:RS}(h:Ks a b)(k:Ks b c):Ks a c where
 pr:=h.pr.trans k.pr
 st:=λe=>by have e1:=h.st e;rw[e1]at k;exact k.st e
 fu:=λf h1 d=>by have hb:=k.stop d;have x:=h.fu f h1 hb;have y:=k.fu x.1 (by omega) d;exact⟨y.1,by omega⟩
section
variable(vars:List B)
theorem SJ(s:RS)(x:List UInt8)(v:Int):(s.put x v).pr=s.pr∧(s.put x v).fuel=s.fuel∧(s.put x v).stop=s.stop∧(s.put x v).dH=s.dH∧(s.put x v).X=s.X∧(s.put x v).fin=s.fin∧(s.put x v).want=s.want∧(s.put x v).empty=s.empty:=by unfold RS.put;split<;>exact⟨rfl,rfl,rfl,rfl,rfl,rfl,rfl,rfl⟩
variable(c:Nat)
end
end Rb

namespace Rb
open Go
def SK(a:Int×Int):List I:=[bY a.1,bY a.2]
def r9(l:List UInt8×Int):List I:=[.str l.1,bY l.2]
def w_(vars:List B)(s:RS)(lx px:I):List I:=au B.cells vars::au SK s.dH::lx::px :: J s.X :: J s.fuel :: J s.fin::(s.want.cells++[.bool s.stop,.bool s.empty])
def kg(H:Z)(id:Nat)(L:List (List UInt8×Int))(x:I):Prop:=(x = aS∧L=[])∨∃j cs m,x = .row j 0 L.length 2∧j≠id∧At H j (.row cs)∧cs.length=m*2∧L.length≤m∧cs.take (L.length*2)=L.flatMap r9
theorem kg.aJ{H H':Z}{id:Nat}{L:List (List UInt8×Int)}{x:I}(h:kg H id L x)(k:b7 id H H'):kg H' id L x:=by
 rcases h with h|⟨j,cs,m,h1,a,b,c⟩
 ·exact .inl h
 ·exact .inr ⟨j,cs,m,h1,a,k.2 j _ a b,c⟩
structure RS.ok(s:RS):Prop where
 dH:∀x∈s.dH,mb x.1∧mb x.2
 aG:∀l∈s.aG,mb l.2
theorem SL:mb 0:=⟨by decide,by decide⟩
theorem RS.ok.get{s:RS}(h:s.ok)(x:List UInt8):mb (s.get x):=by
 unfold RS.get;split
 · rename_i l hl;exact h.aG l (List.mem_of_find?_eq_some hl)
 ·exact SL
theorem RS.ok.put{s:RS}(h:s.ok)(x:List UInt8){v:Int}(hv:mb v):(s.put x v).ok:=by
 unfold RS.put;split
 · refine⟨h.dH,λl hl=>?_⟩;rcases List.mem_or_eq_of_mem_set hl with hl|rfl
   ·exact h.aG l hl
   ·exact hv
 ·exact h
section
variable(vars:List B)
end
section
variable{vars:List B}{s:RS}{lx px:I}{H:Z}{id:Nat}(h:At H id (.row (w_ vars s lx px)))
include h
end
end Rb

namespace Rb
open Go
section
variable{Φ:ai}{H:Z}{Q:ad}
end
section
variable{C:Ctx}(aj:bN C)(hT:Cl (af C) S.bu)
include aj hT
variable{vars:List B}{s:RS}{lx px:I}{H:Z}{id:Nat}{Q:ad}
end
end Rb

namespace Rb
open Go
theorem Bl{m:Nat}:∀{l:List aw}{f:aw},f∈l→dG m f.type≤fb m l
 | g::r,f,h=>by
  rw[fb];rcases aah.1 h with rfl|h
  ·rw[wx];omega
  ·have:=Bl (m:=m) h;omega
theorem Bm{m:Nat}:∀{l:List U}{f:U},f∈l→dG m f≤eT m l
 | g::r,f,h=>by
  rw[eT];rcases aah.1 h with rfl|h
  ·omega
  ·have:=Bm (m:=m) h;omega
theorem IF{m k:Nat}:∀{l:List aw},(∀f∈l,dG m f.type=dG k f.type)→fb m l=fb k l
 |[],_=>by rw[fb,fb]
 |g::r,h=>by rw[fb,fb,wx,wx,h g (aaj ..),IF λf hf=>h f (aai _ hf)]
theorem IG{m k:Nat}:∀{l:List U},(∀f∈l,dG m f=dG k f)→eT m l=eT k l
 |[],_=>by rw[eT,eT]
 |g::r,h=>by rw[eT,eT,h g (aaj ..),IG λf hf=>h f (aai _ hf)]
theorem SM:∀(t:U)(m:Nat),dG m t<m→dG (m+1) t=dG m t:=by
 refine U.ind λt a b m h=>?_;rw[p5]at h;by_cases h1:1<m
 · rw [aa h1]at h;rw[p5,p5,cG,aa h1,Nat.add_sub_cancel];have e1:fb m t.aE=fb (m-1) t.aE:=IF λf hf=>by
    have:=Bl (m:=m-1) hf;have:=a f hf (m-1) (by omega);rw[show m-1+1=m by omega]at this;exact this
   have c:eT m t.aU=eT (m-1) t.aU:=IG λf hf=>by have:=Bm (m:=m-1) hf;have:=b f hf (m-1) (by omega);rw[show m-1+1=m by omega]at this;exact this
   rw[e1,c]
 ·rw[ab h1]at h;omega
theorem IH{t u:U}(h:eg t=0)(a:(∃f∈t.aE,f.type=u)∨u∈t.aU)(hs:c8 u=0):eg u=0:=by
 have b:¬64<dG 65 t:=by intro e;unfold eg at h;rw[aa e]at h;cases h
 rw[p5,kG]at b;have:dG 64 u≤63:=by
  rcases a with⟨f,hf,rfl⟩|a
  · have:=Bl (m:=64) hf;simp only[show 65-1=64 from rfl]at b;omega
  · have:=Bm (m:=64) a;simp only[show 65-1=64 from rfl]at b;omega
 have e:=SM u 64 (by omega);unfold eg;rw[ab (by rw[show(65:Nat)=64+1 from rfl,e];omega),hs]
theorem Bn{packed:Bool}{kind:Int}:∀{l:List aw}{p q:PL},dY packed kind p l=some q→(∀f∈l,(A f.type).2=true)∧q.dv.length=p.dv.length+l.length
 | [],p,q,h=>by simp only[dY,Yb.injEq]at h;subst h;exact⟨λf hf=>(by cases hf),rfl⟩
 | f :: r, p,q,h=>by
  simp only[dY,p8]at h;by_cases h1:(A f.type).2=true
  · rw [aa h1]at h;obtain⟨b,c⟩:=Bn h;refine⟨λg a=>?_,?_⟩
    · rcases aah.1 a with rfl|a
      ·exact h1
      ·exact b g a
    · have hl:(im packed kind p f (A f.type).1).dv.length=p.dv.length+1:=by
        unfold im;dsimp only;split
        · unfold lA;split<;>simp[lB]
        ·simp[lB,wI]
      rw[c,hl,abD];omega
  ·rw[ab h1]at h;cases h
structure U.lay(t:U):Prop where
 ok:t.ok
 snd:eg t=0
 Bo:gg t=false
 of:(A t).2=true
theorem mY{t:U}(c:t.ok)(h:(aX t).2=0):t.lay:=by
 unfold aX at h;by_cases h1:eg t≠0
 ·rw[aa h1]at h;exact absurd h h1
 · rw [ab h1]at h;by_cases a:gg t=true
   · rw[aa a]at h;have:(10:Int)=0:=h;omega
   · rw [ab a]at h;by_cases b:(A t).2=false
     · rw[aa b]at h;have:(9:Int)=0:=h;omega
     ·exact⟨c,by omega,by simpa using a,by simpa using b⟩
theorem U.lay.zero{t:U}(h:t.lay):aX t=((A t).1,0):=by unfold aX;rw[ab (by rw[h.snd];decide),ab (by rw[h.Bo];decide),ab (by rw[h.of];decide)]
theorem U.r_{t:U}(h:t.ok):(∀f∈t.aE,f.type.ok)∧(∀e∈t.aU,e.ok)∧t.aE.length≤9223372036854775807:=by
 cases t with
 | mk kind size packed aE ba aU=>obtain⟨_,_,h1,a,_,c,b⟩:=h;refine⟨λf hf=>?_,U.dZ.1 b,by rw[←og];exact h1⟩;have:=aw.dZ.1 a f hf;cases f;exact this.2.1
theorem xb{t e:U}(h:t.lay)(c:t.kind=5)(a:e∈t.aU):e.lay:=by
 have hs:=fD h.snd;obtain⟨f,d,g⟩:=lz hs c;have i:e=f:=by rw[d]at a;simpa using a
 subst i;refine⟨(U.r_ h.ok).2.1 e a,IH h.snd (.inr a) g,?_,?_⟩
 · have ht:=h.Bo;cases t with
   | mk kind size packed aE ba aU=>rw[gg]at ht;simp only[aak]at ht;have:=ht.1.2;rw[AD,acv]at this;simpa using this e a
 · have b:=h.of;rw[lC,bw,aa c,d]at b;simp only[fc,X1]at b;exact b.1
theorem qc{t:U}(h:t.lay)(b:t.kind=3∨t.kind=4):∃p,dY t.packed t.kind ⟨0,1,[],0⟩ t.aE=some p∧ca p.size p.bP≤65536∧p.dv.length=t.aE.length:=by
 have a:=h.of;rw[lC,bw,bw]at a;cases hp:dY t.packed t.kind ⟨0,1,[],0⟩ t.aE with
 |none=>rw[hp]at a;cases a
 | some p=>rw[hp]at a;refine⟨p,rfl,by simpa using a,?_⟩;have:=(Bn hp).2;simpa using this
theorem oh{t:U}{f:aw}(h:t.lay)(a:t.kind=3∨t.kind=4)(hf:f∈t.aE):f.type.lay:=by
 have hs:=fD h.snd;obtain⟨p,hp,_⟩:=qc h a;refine⟨(U.r_ h.ok).1 f hf,IH h.snd (.inl ⟨f,hf,rfl⟩) ((mR hs a).1 f hf),?_,(Bn hp).1 f hf⟩;have ht:=h.Bo;cases t with
 | mk kind size packed aE ba aU=>rw[gg]at ht;simp only[aak]at ht;have:=ht.2;rw[AE,acv]at this;simpa using this f hf
theorem II{t:U}(h:t.lay)(a:t.kind=3∨t.kind=4):(cq t).length=t.aE.length:=by obtain⟨p,hp,_,hl⟩:=qc h a;unfold cq;rw[hp];exact hl
theorem lO{t:U}{p:K}(h:t.lay)(a:(cV t p).1=0) :
  (p.bc.length=1∧t.kind=5∧∃e r,t.aU=e::r∧cV t p=(0,e)∧e.lay) ∨
  (p.bc=[]∧(t.kind=3∨t.kind=4)∧∃n f s,t.aE.findIdx? (λf=>f.E==p.field)=some n∧t.aE[n]?=some f∧(cq t)[n]?=some s∧cV t p=(0,f.type)∧f.type.lay):=by
 unfold cV at a ⊢;by_cases c1:1<p.bc.length∨(p.bc.length=1↔p.field≠[])
 · rw[aa c1]at a;have:(8:Int)=0:=a;omega
 rw[ab c1]at a;by_cases c2:p.bc.length=1∧t.kind=5
 · rw [aa c2]at a;left;cases he:t.aU with
   | nil=>rw[he]at a;have:(8:Int)=0:=a;omega
   |cons e r=>exact⟨c2.1,c2.2,e,r,rfl,by rw[ab c1,aa c2],xb h c2.2 (by rw[he];exact aaj ..)⟩
 rw[ab c2]at a;by_cases c3:p.bc.length=1∨¬(t.kind=3∨t.kind=4)
 · rw[aa c3]at a;have:(8:Int)=0:=a;omega
 rw[ab c3]at a;have hk:t.kind=3∨t.kind=4:=by omega
 right;rcases nV (λf:aw=>f.E==p.field) t.aE with⟨i,f,h1,b,c⟩|⟨h1,b⟩
 · have d:=(XV.1 c).1;have hl:i<(cq t).length:=by rw[II h hk];exact d
   refine⟨Zi.1 (by omega),hk,i,f,(cq t)[i],h1,c,YO hl,?_,oh h hk (aaH c)⟩;rw[ab c1,ab c2,ab c3,b]
 · rw[b]at a;have:(6:Int)=0:=a;omega
end Rb

namespace Rb
open Go
variable{vars:List B}{v:B}
def dw:List B→List be→List I
 |v::r,s::t=> .str v.E :: J s.at_ :: J s.len::dw r t
 |_,_=>[]
theorem IJ:∀(a:List B)(s:List be)(v:B)(g:be),a.length=s.length→dw (a++[v]) (s++[g])=dw a s++[.str v.E,J g.at_,J g.len]
 |[],[],v,g,_=>rfl
 | x::a,y::s,v,g,h=>by rw[ZS,ZS,dw,dw,IJ a s v g (by simpa using h)];rfl
theorem IK:∀(a:List B)(s:List be),I.cf (dw a s)=dw a s
 |v::r,s::t=>by rw[dw,I.cf,I.cf,I.cf,IK r t];rfl
 |[],[]=>rfl
 |[],_::_=>rfl
 |_::_,[]=>rfl
theorem IL:∀(a:List B)(s:List be),I.bA (dw a s)=true
 |v::r,s::t=>by rw[dw];simp only[I.bA,I.bb,IL r t];rfl
 |[],[]=>rfl
 |[],_::_=>rfl
 |_::_,[]=>rfl
def jn(vars:List B):I:=if(mapM vars).1≠0 then .aq [.ak .dead 0 [],D,J (mapM vars).1]else .aq [.ak .dead vars.length (dw vars (mapM vars).2.2),J (mapM vars).2.1,D]
def oi(a:Int)(v:B):Int:=if V (V (acw (V (V (a+(aX v.type).1.2)-1)) (aX v.type).1.2)*(aX v.type).1.2)>65536 then 65537 else V (V (acw (V (V (a+(aX v.type).1.2)-1)) (aX v.type).1.2)*(aX v.type).1.2)
theorem IM(v:B)(r:List B)(a:Int)(b:List be):eH (v::r) a b=if(aX v.type).2≠0 then((aX v.type).2,0,[])else eH r (V (oi a v+(aX v.type).1.1)) (b++[⟨V (65536+oi a v),(aX v.type).1.1,0,false,0,0⟩]):=rfl
theorem SN(h:(eH vars 0 []).1≠0):jn vars = .aq [.ak .dead 0 [],D,J (eH vars 0 []).1]:=by
 have e:mapM vars=((eH vars 0 []).1,0,[]):=by unfold mapM;rw[aa h]
 unfold jn;rw[e];exact aa h
theorem SO(h:(eH vars 0 []).1=0)(a:(eH vars 0 []).2.1>65536):jn vars = .aq [.ak .dead 0 [],D,J 9]:=by
 have e:mapM vars=(9,0,[]):=by unfold mapM;rw[bw,aa a]
 unfold jn;rw[e];exact aa (show(9:Int)≠0 by decide)
theorem SP(h:(eH vars 0 []).1=0)(a:¬(eH vars 0 []).2.1>65536):jn vars = .aq [.ak .dead vars.length (dw vars (eH vars 0 []).2.2),J (eH vars 0 []).2.1,D]:=by
 have e:mapM vars=eH vars 0 []:=by unfold mapM;rw[bw,ab a]
 unfold jn;rw[e];exact bw
theorem IP:∀(l:List B)(at':Int)(acc:List be),(eH l at' acc).1=0→(eH l at' acc).2.2.length=acc.length+l.length∧∀v∈l,(aX v.type).2=0
 |[],at',acc,_=>⟨rfl,λv hv=>(by cases hv)⟩
 | v :: r,at',acc,h=>by
  unfold eH at h ⊢;by_cases h1:(aX v.type).2≠0
  ·rw[aa h1]at h;exact absurd h h1
  · rw[ab h1]at h ⊢;obtain⟨a,b⟩:=IP r _ _ h;refine⟨by rw[a];simp;omega,λu hu=>?_⟩;rcases aah.1 hu with rfl|hu
    ·omega
    ·exact b u hu
theorem SQ(h:(mapM vars).1=0):(mapM vars).2.2.length=vars.length∧∀v∈vars,(aX v.type).2=0:=by
 unfold mapM at h ⊢;by_cases h1:(eH vars 0 []).1≠0
 ·rw[aa h1]at h;exact absurd h h1
 · rw [ab h1]at h ⊢;by_cases a:(eH vars 0 []).2.1>65536
   · rw[aa a]at h;have:(9:Int)=0:=h;omega
   · rw[ab a]at h ⊢;obtain⟨b,c⟩:=IP vars 0 [] h;exact⟨by simpa using b,c⟩
section
variable{H:Z}{id:Nat}
theorem SR(h:At H id (.row v.cells)):O H 1 false (.ptr id 0)=some (.str v.E):=by rw[h.load];cases v;rfl
theorem IQ(h:At H id (.row v.cells)):O H 6 true (.ptr id 1)=some (.agg v.type.cells):=by
 rw[h.load];cases v with
 | mk E type=>show bU (.str E::type.cells) 1 6 true=_;unfold bU;rw[aa (by rw[abD,type.len];omega),aa rfl];show some (I.agg (type.cells.take 6))=_;rw[abG (by rw[type.len];omega)]
end
section
variable{C:Ctx}(aj:bN C)(hT:Cl (af C) S.bu)
include aj hT
theorem xc(hl:vars.length≤1000000)(hv:∀v∈vars,v.ok):bB (af C) 15 [au B.cells vars] (jn vars):=by
 refine bB.of aj (by simp[I.bA,j_ B.bb]) (by
   unfold jn;split
   ·rfl
   ·simp[I.bb,I.bA,IL,Tok.free]) λQ hQ=>?_
 refine af.cd ?_;refine S.OZ hT ?_;unfold S.f15;simp only[cU,T];have main:∀(r:List B)(k:Nat)(at':Int)(acc:List be)(x:I)(H:Z),vars.drop k=r→k≤vars.length→acc.length=k→cC 0 H 3 x k (dw (vars.take k) acc)→eH r at' acc=eH vars 0 [] →
   aC (S.rz (af C) (au B.cells vars) (J vars.length) λv H'=>Q v.cd H') ([x,J at',J k],H):=by
  intro r;induction r with
  | nil=>
   intro k at' acc x H e hk ha c he;have hle:=er e;have o:k=vars.length:=by omega
   subst o;rw[abu]at c;refine aC.step ?_;simp only[S.rz,aF,c4,bD,T,aD,aT,S.EM,ej];rw[lV];have e1:(eH vars 0 []).1=0:=by rw[←he];rfl
   have f:(eH vars 0 []).2.1=at':=by rw[←he];rfl
   have p:(eH vars 0 []).2.2=acc:=by rw[←he];rfl
   obtain⟨tk,rfl,_,_⟩:=c;apply aI<;>intro h
   · rw[SO e1 (by rw[f];simpa using h)]at hQ;exact hQ _
   · rw[SP e1 (by rw[f];simpa using h),f,p]at hQ;have:=hQ H;simp only[I.cd,I.cf,IK];exact this
  | cons v r s=>
   intro k at' acc x H e hk ha c he;obtain⟨j,g,t⟩:=ed e;have u:=hv v (aaH g);have l:v.type.ok:=by cases v;exact u.2
   refine aC.step ?_;simp only[S.rz,aF,c4,bD,T,aD];rw[dW,cQ j];simp only[T];rw[dD B.len (by decide) _ g];simp only[T,aR,aL,a_];rw[cS _ _ _ 7 v.len v.scalar rfl];have a2:=At.new H (.row v.cells);have w:cC 0 (H.push (.row v.cells)) 3 x k (dw (vars.take k) acc):=c.frame λ_ _ _ q=>q.push _;simp only[T,W,YI];rw[IQ a2];simp only[T];generalize H.push (.row v.cells)=H2 at *;refine wO aj hT v.type l _ _ ?_;simp only[bj,abj,abk,T,d_,aD];rw[IM]at he;apply aI<;>intro h
   · have d:(aX v.type).2≠0:=by simpa using h
     rw[aa d]at he;rw[SN (by rw[←he];exact d),←he]at hQ;exact hQ H2
   · have d:¬(aX v.type).2≠0:=by simpa using h
     rw[ab d]at he;have K:1≤(aX v.type).1.2:=by have i:=mY l (by omega);rw[i.zero];exact wM _ (fD i.snd) i.of
     simp only[b4,fO,T,mc _ _ _ (show(aX v.type).1.2≠0 by omega),jF,ej,aD,aT];have k2:∀y:Int,y=oi at' v →
       S.uF (af C) (.ptr H.n 0) (J (aX v.type).1.1) ([x,J at',J k],H) (aC (S.rz (af C) (au B.cells vars) (J vars.length) λv H'=>Q v.cd H')) (λv H'=>Q v.cd H') [J y] H2:=by
      intro y z;simp only[S.uF,aF,c4,W,YI,T,SR a2,b4];rw[show ∀a b:Int,bo [D,D] [(0,1,J a),(1,1,J b)]=some (.agg [J a,J b])from λ_ _=>rfl];simp only[T];refine⟨.agg [.str v.E,J (V (65536+y)),J (aX v.type).1.1],rfl,?_⟩;dsimp only;rw[show dk H2 false 3 1 [.str [],D,D] [(0,3,I.agg [.str v.E,J (V (65536+y)),J (aX v.type).1.1])]=some (.ak .full 1 [.str v.E,J (V (65536+y)),J (aX v.type).1.1],H2)from rfl];simp only[aR];refine w.app (Yt _) (m:=1) (news:=[.str v.E,J (V (65536+y)),J (aX v.type).1.1]) rfl rfl rfl (by decide) (by omega) (by omega) λA F G _=>?_;simp only[aT,S.EL,aF,c4,b4,T];rw[wrap_i64 (n:=(k:Int)+1) (by omega) (by omega),show(k:Int)+1=((k+1:Nat):Int) by simp];have ht:vars.take (k+1)=vars.take k++[v]:=by rw[abL,g];rfl
      refine s (k+1) _ (acc++[⟨V (65536+y),(aX v.type).1.1,0,false,0,0⟩]) A F t j (by simp[ha]) ?_ ?_
      · rw[ht,IJ _ _ _ _ (by rw[abX,ha];omega)];exact G
      ·rw[z];exact he
     apply aI<;>intro h
     ·exact k2 _ (by unfold oi;rw[aa (by simpa using h)])
     ·exact k2 _ (by unfold oi;rw[ab (by simpa using h)])
 exact main vars 0 0 [] _ _ rfl (Yt _) rfl (cC.nil _ _ _) rfl
theorem SS{x:aN}(a:x.ok):bB (af C) 42 [.agg x.cells] (J (gj x.aB 0)):=by
 obtain⟨hl,hp⟩:=aN.fP a;refine bB.of aj (by simp[I.bA,I.bb,aN.bb]) rfl λQ hQ=>S.Pb hT ?_;unfold S.f42;simp only[qb,aR,Bi,r8,cU,T];have main:∀(r:List K)(i:Nat)(m:Int)(H1:Z),x.aB.drop i=r→gj r m=gj x.aB 0→aC (S.uP (af C) (au K.cells x.aB) (J x.aB.length) Q) ([J m,J i],H1):=by
  intro r;induction r with
  | nil=>intro i m H1 b he;have hle:=er b;refine aC.step ?_;simp only[S.uP,aF,c4,bD,T,aD];rw[ee];rw[gj]at he;rw[he];exact hQ _
  | cons p r c=>
   intro i m H1 b he;obtain⟨d,a,e⟩:=ed b;refine aC.step ?_;simp only[S.uP,aF,c4,bD,T,aD];rw[dW,cQ d];simp only[T];rw[dD K.len (by decide) _ a];simp only[T,aR,aL,a_];rw[cS _ _ _ 2 p.len p.scalar rfl];have a2:=At.new H1 (.row p.cells);simp only[T,W,YI];rw[IE a2];simp only[T,cU,b4];rw[gj]at he;have hw:Y6 .i64 ((i:Int)+1)=((i+1:Nat):Int):=by rw[bH];simp
   rw[hw];exact c (i+1) _ _ e he
 exact main x.aB 0 0 _ rfl rfl
end
end Rb

namespace Rb
open Go
theorem Bp:∀l:List be,I.cf (l.flatMap be.cells)=l.flatMap be.cells
 |[]=>rfl
 |s::r=>by rw[abe,jJ,Bp r];rfl
theorem Bq:∀l:List be,I.bA (l.flatMap be.cells)=true
 |[]=>rfl
 | s::r=>by rw[abe];show I.bA ([J s.at_,J s.len,J s.kind,.bool s.bits,J s.bit,J s.aM]++r.flatMap be.cells)=true;simp only[ZS,acx,I.bA,I.bb,Bq r];rfl
def e4(t:U)(sp:be)(ix:I):List I:=t.cells++(sp.cells++[ix])
theorem gl(t:U)(sp:be)(ix:I):e4 t sp ix=[J t.kind,J t.size,.bool t.packed,au aw.cells t.aE,J t.ba,au U.cells t.aU,J sp.at_,J sp.len,J sp.kind,.bool sp.bits,J sp.bit,J sp.aM,ix]:=by unfold e4;rw[U.bF];rfl
section
variable{H:Z}{id:Nat}{t:U}{sp:be}{ix:I}(h:At H id (.row (e4 t sp ix)))
include h
theorem SU:O H 1 false (.ptr id 12)=some ix:=by rw[h.load,gl];rfl
theorem SV:O H 1 false (.ptr id 4)=some (J t.ba):=by rw[h.load,gl];rfl
theorem SX:O H 1 false (.ptr id 5)=some (au U.cells t.aU):=by rw[h.load,gl];rfl
theorem IU:O H 1 false (.ptr id 3)=some (au aw.cells t.aE):=by rw[h.load,gl];rfl
theorem IV:O H 6 true (.ptr id 0)=some (.agg t.cells):=by rw[h.load,gl,U.bF];rfl
theorem IW:O H 1 false (.ptr id 6)=some (J sp.at_):=by rw[h.load,gl];rfl
theorem SY:O H 6 true (.ptr id 6)=some (.agg sp.cells):=by rw[h.load,gl];rfl
theorem SZ{v:I}(b:v.known=true)(a:v.cells=[v])(c:v.scalar=true):Y H 1 (.ptr id 12) v=some (H.set id (.row (e4 t sp v))):=by rw[h.store,gl,gl,aa ⟨b,by rw[a];rfl,by rw[a];simpa using c,(by show 12+1≤13;decide)⟩,a];rfl
theorem IX(u:U):Y H 6 (.ptr id 0) (.agg u.cells)=some (H.set id (.row (e4 u sp ix))):=by rw[h.store,gl,gl,aa ⟨rfl,u.len,u.scalar,(by show 0+6≤13;decide)⟩,U.bF];rfl
theorem S0(s:be):Y H 6 (.ptr id 6) (.agg s.cells)=some (H.set id (.row (e4 t s ix))):=by rw[h.store,gl,gl,aa ⟨rfl,rfl,rfl,(by show 6+6≤13;decide)⟩];rfl
theorem S1(v:Int):Y H 1 (.ptr id 6) (J v)=some (H.set id (.row (e4 t {sp with at_:=v} ix))):=by rw[h.store,gl,gl,aa ⟨rfl,rfl,rfl,(by show 6+1≤13;decide)⟩];rfl
theorem S2(v:Int):Y H 1 (.ptr id 7) (J v)=some (H.set id (.row (e4 t {sp with len:=v} ix))):=by rw[h.store,gl,gl,aa ⟨rfl,rfl,rfl,(by show 7+1≤13;decide)⟩];rfl
theorem S3(v:Int):Y H 1 (.ptr id 8) (J v)=some (H.set id (.row (e4 t {sp with kind:=v} ix))):=by rw[h.store,gl,gl,aa ⟨rfl,rfl,rfl,(by show 8+1≤13;decide)⟩];rfl
end
def sa(ix:I)(l:List Int):Prop:=∃tk,ix = .ak tk l.length (l.map (bY))
theorem Br{fs:List aw}{i:Nat}{f:aw}(H:Z)(h:fs[i]?=some f):O H 6 true (.ae (((fs.flatMap aw.cells).drop (i*9)).drop 1))=some (.agg f.type.cells):=by
 have e:=dD aw.len (by decide) H h;have a:(fs.flatMap aw.cells).drop (i*9)=f.cells++(fs.drop (i+1)).flatMap aw.cells:=by
  have key:∀(xs:List aw)(i:Nat)(f:aw),xs[i]?=some f→(xs.flatMap aw.cells).drop (i*9)=f.cells++(xs.drop (i+1)).flatMap aw.cells:=by
   intro xs;induction xs with
   |nil=>intro i f h;simp at h
   | cons x r c=>
    intro i f h;cases i with
    |zero=>simp at h;subst h;simp
    | succ i=>rw[abe,show(i+1)*9=x.cells.length+i*9 by rw[x.len];omega,List.drop_length_add_append];exact c i f (by simpa using h)
  exact key fs i f h
 rw[a];show bU (acy 1 (f.cells++_)) 0 6 true=_;cases f with
 |mk n t b w=>cases t;rfl
section
variable{C:Ctx}(aj:bN C)(hT:Cl (af C) S.bu)
include aj hT
theorem IY{t:U}(h:t.lay)(a:t.kind=3∨t.kind=4):bB (af C) 72 [.agg t.cells] (.aq [au be.cells (cq t),D]):=by
 refine bB.of aj (by simp[I.bA,I.bb,U.bb]) (by show I.bb (.aq [.ak .dead (cq t).length ((cq t).flatMap be.cells),D])=true;simp[I.bb,I.bA,Bq,Tok.free]) λQ hQ=>?_
 refine af.cd ?_;refine S.Ps hT ?_;unfold S.f72;simp only[gC,aR,iT,T];refine S.Ah hT (AN aj hT t h.ok λH1=>?_);rw[h.zero];simp only[bj,abj,abk,T,aR,aL,a_];rw[cS _ _ _ 2 rfl rfl rfl];simp only[T,d_,aD];rw[eM];simp only[dX,kB,T,d_,cP,aT];have hs:=fD h.snd;obtain⟨p,hp,hle,hlen⟩:=qc h a;have k2:S.uZ (af C) (.ae t.cells) (λv H'=>Q v.cd H') [P] (H1.push (.row [J (A t).1.1,J (A t).1.2])):=by
  simp only[S.uZ,aF,aD,ZP,bR,aT,S.FB,iT,T];refine S.Ai hT (AL hT hs a (λf hf=>wN aj hT f.type (fD (oh h a hf).snd)) (λf hf=>wM f.type (fD (oh h a hf).snd)) (λe=>by rw[hp]at e;cases e) λq b x H2 c=>?_);rw[hp]at b;cases b;obtain⟨_,tk,rfl,_⟩:=c;simp only[bj,abj,abk,T,aR,aL,a_];rw[cS _ _ _ 4 rfl rfl rfl];simp only[T,W,YI,eL];rw[show bU [J (ca p.size p.bP),J p.bP,.ak tk p.dv.length (p.dv.flatMap be.cells),J p.bit] 2 1 false=some (.ak tk p.dv.length (p.dv.flatMap be.cells))from rfl];simp only[T,I.cd,I.cf,Bp];have d:cq t=p.dv:=by unfold cq;rw[hp]
  rw[d]at hQ;exact hQ _
 rcases a with a|a
 · rw[ab (by rw[a];decide)];exact k2
 · rw[aa (by rw[a];decide),show((t.kind != 4):Bool)=false by rw[a];decide];exact k2
theorem S4{t:U}{sp:be}{ix:I}{idx:List Int}{p:K}{H:Z}{id:Nat}(h:At H id (.row (e4 t sp ix)))(ht:t.lay)(x:sa ix idx)(y:(cV t p).1=0)(m:p.bc.length≤idx.length){Q:ad}
  (z:∀i q e r H',p.bc.length=1→idx=i::q→t.aU=e::r→i≥lJ t.ba→b7 id H H'→Q P H')
  (A:∀i q e r a H',p.bc.length=1→idx=i::q→t.aU=e::r→¬i≥lJ t.ba→cV t p=(0,e)→sa a q→e.lay→b7 id H H'→At H' id (.row (e4 e {sp with at_:=V (sp.at_+V (Y6 .i64 i*(aX e).1.1)),len:=(aX e).1.1} a))→Q br H')
  (B:∀n f s H',p.bc.length≠1→p.bc=[]→t.aE.findIdx? (λf=>f.E==p.field)=some n→t.aE[n]?=some f→(cq t)[n]?=some s→cV t p=(0,f.type)→f.type.lay→b7 id H H'→At H' id (.row (e4 f.type {s with at_:=V (s.at_+sp.at_)} ix))→Q br H') :
  af C 45 [.ptr id 0,.agg p.cells] H Q:=by
 refine S.Pe hT ?_;unfold S.f45;simp only[HJ,aR,wA,wB,cU,T,cI,aD];rcases lO ht y with⟨b,hk,e,r,he,c,u⟩|⟨d,hk,n,f,s,h1,j,k,c,F⟩
 · rw [aa (by rw[b];decide)];obtain ⟨i,q,G⟩:∃i q,idx=i::q:=by
    cases idx with
    |nil=>rw[b]at m;simp at m
    |cons i q=>exact⟨i,q,rfl⟩
   subst G;obtain⟨tk,rfl⟩:=x;have mZ:aP none 1 (.ak tk (i::q).length ((i::q).map (bY))) (D)=some (.ae ((i::q).map (bY))):=by show(if 0≤(0:Int)∧(0:Int)<((i::q).length:Nat)then some (I.ae (((i::q).map (bY)).drop ((0:Int).toNat*1)))else none)=_;rw[aa ⟨ab_ _,by simp⟩];rfl
   have ld1:∀H,O H 1 false (.ae ((i::q).map (bY)))=some (bY i):=λH=>by show bU ((i::q).map (bY)) 0 1 false=_;unfold bU;rw[qH,eM];rfl
   obtain ⟨a,L,l⟩:∃a,du 1 (.ak tk (i::q).length ((i::q).map (bY))) (some (J 1)) none none=some a∧sa a q∧a.known=true∧a.cells=[a]∧a.scalar=true:=by refine⟨.ak .dead q.length (q.map (bY)),?_,⟨_,rfl⟩,rfl,rfl,rfl⟩;simp only[du,eo,aco];rw[cG];simp only[show(1:Int).toNat=1 from rfl];rw[aa ⟨by simp,sl _,by simp⟩,lV,lV];have e1:((i::q).map (bY)).take ((i::q).length*1)=(i::q).map (bY):=abG (by simp);rw[e1];rfl
   obtain⟨l,g1,g2,g3⟩:=l;simp only[aZ,W,YI,SU h,T,mZ,ld1,L];rw[SZ h g1 g2 g3];simp only[T];have a1:=h.set (.row (e4 t sp a));have k1:=b7.set id H (.row (e4 t sp a));rw[SV a1];simp only[T,j8,gZ,aD];apply aI<;>intro hb
   ·exact z i q e r _ b rfl he (by simpa using hb) k1
   · rw[SX a1,he];have M:aP none 6 (au U.cells (e::r)) (D)=some (dN U.cells 6 (e::r) 0):=cQ (by simp);simp only[T,M,dD U.len (by decide) _ (show(e::r)[0]?=some e from rfl)];rw[IX a1 e];simp only[T];have a2:=a1.set (.row (e4 e sp a));rw[IV a2];simp only[T];refine wO aj hT e u.ok _ _ ?_;simp only[bj,abj,abk,T,IW a2,jF,b4];rw[S1 a2];simp only[T];have a3:=a2.set (.row (e4 e {sp with at_:=V (sp.at_+V (Y6 .i64 i*(aX e).1.1))} a));rw[S2 a3];simp only[T];exact A i q e r a _ b rfl he (by simpa using hb) c l u (k1.trans ((b7.set id _ _).trans ((b7.set id _ _).trans (b7.set id _ _)))) (a3.set _)
 · rw [ab (by rw[d];decide)];have N:=(XV.1 j).1;have X:=(XV.1 k).1;simp only[aZ,W,YI,IU h,T];refine S.we hT ?_;refine fieldIndex (p:=λf=>f.E==p.field) (λg _ R ac=>S.Pr hT (by
     unfold S.f71;have hb:aO H false 9 (.agg g.cells)=some (.ae g.cells,H):=by unfold aO;rw[aa ⟨rfl,g.len⟩];rfl
     have l0:O H 1 false (.ae (g.cells.drop 0))=some (.str g.E):=p4 g;have l1:O H 1 false (.ae (p.cells.drop 0))=some (.str p.field):=Ax p H;rw[hb];simp only[aR,W,T,l0,l1,iU];exact ac)) (U.r_ ht.ok).2.2 ?_
   rw[h1];simp only[ga,IV h,T];refine IY aj hT ht hk _ _ ?_;simp only[bj,abj,abk,T];rw[cQ X];simp only[T];rw[dD (cells:=be.cells) (λ_=>rfl) (by decide) _ k];simp only[T,aR,aL,a_];rw[cS _ _ _ 6 rfl rfl rfl];have b1:=At.new H (.row s.cells);have a1:=h.push (.row s.cells);have k1:=b7.push id H (.row s.cells);have ag:H.n≠id:=YL h.lv;generalize H.push (.row s.cells)=H1 at *;have lb:O H1 1 false (.ptr H.n 0)=some (J s.at_):=by rw[b1.load];rfl
   simp only[T,W,YI,lb,IW a1,b4];have ah:∀v:Int,Y H1 1 (.ptr H.n 0) (J v)=some (H1.set H.n (.row ({s with at_:=v}:be).cells)):=λv=>by rw[b1.store,aa ⟨rfl,rfl,rfl,(by show 0+1≤6;decide)⟩];rfl
   rw[ah];simp only[T];have b2:=b1.set (.row ({s with at_:=V (s.at_+sp.at_)}:be).cells);have a2:=a1.bZ ag.symm (.row ({s with at_:=V (s.at_+sp.at_)}:be).cells);have k2:b7 id H (H1.set H.n (.row ({s with at_:=V (s.at_+sp.at_)}:be).cells)):=⟨k1.1,λi o hi w=>(k1.2 i o hi w).bZ (YG w.1) _⟩
   generalize H1.set H.n (.row ({s with at_:=V (s.at_+sp.at_)}:be).cells)=H2 at *;have ai:O H2 6 true (.ptr H.n 0)=some (.agg ({s with at_:=V (s.at_+sp.at_)}:be).cells):=by rw[b2.load];rfl
   simp only[ai,T,IU a2];rw[cQ N];simp only[T,dN];rw[show(I.ae (acy 1 (acy (n*9) (List.flatMap aw.cells t.aE)))) = .ae (((t.aE.flatMap aw.cells).drop (n*9)).drop 1)from rfl,Br H2 j];simp only[T];rw[S0 a2];simp only[T];have a3:=a2.set (.row (e4 t {s with at_:=V (s.at_+sp.at_)} ix));rw[IX a3 f.type];simp only[T];exact B n f s _ (by rw[d];decide) d h1 j k c F (k2.trans ((b7.set id _ _).trans (b7.set id _ _))) (a3.set _)
end
end Rb

namespace Rb
open Go
theorem cC.IZ{n0 sz b a m:Nat}{H:Z}{x y:I}{cells news:List I}{K:ad}(h:cC n0 H sz x a cells)(d:n0≤H.n)(f:fi H sz y=some (m,news))(hn:news.length=m*sz)(hs:news.all I.scalar=true)(g:m≠0)
  (hb:(a+m)*b≤140737488355328) (hl:a+m≤9223372036854775807) (j:∀H',cC n0 H' sz (.ak (.own H.n) (a+m) (cells++news)) (a+m) (cells++news)→H.n<H'.n→(∀i o,At H i o→(∀l c,x ≠ .ak (.own i) l c)→At H' i o)→K (.ak (.own H.n) (a+m) (cells++news)) H'):ar (cr H false sz b x y) K:=by
 obtain⟨tk,rfl,hc,k⟩:=h;have hlen:(cells++news).length=(a+m)*sz:=by simp[hc,hn,Yu]
 have grow:∀tk:Tok,tk = .full∨(tk = .nil∧a=0)→cr H false sz b (.ak tk a cells) y=some (.ak (.own H.n) (a+m) (cells++news),H.push (.tok ((a+m)*sz) sz)):=by intro tk ht;simp only[cr,f,hs,not_true_eq_false,bR,ab g];rw[ab (by simp only[abz];exact⟨hc,hb,hl⟩)];rcases ht with rfl|⟨rfl,_⟩<;>rfl
 have fresh:K (.ak (.own H.n) (a+m) (cells++news)) (H.push (.tok ((a+m)*sz) sz)):=
  j _ ⟨_,rfl,hlen,.inr (.inr ⟨H.n,rfl,d,At.new H _⟩)⟩ (aaJ _) (λi o h _=>h.push _)
 rcases k with ht|ht|⟨t,rfl,h1,p⟩
 ·exact⟨_,_,grow tk (.inr ht),fresh⟩
 ·exact⟨_,_,grow tk (.inl ht),fresh⟩
 · refine ⟨.ak (.own H.n) (a+m) (cells++news),(H.set t .gone).push (.tok ((a+m)*sz) sz),?_,j _ ⟨_,rfl,hlen,.inr (.inr ⟨H.n,rfl,d,At.new (H.set t .gone) _⟩)⟩ (aaJ _) (λi o hi q=>(hi.bZ (λe=>?_) _).push _)⟩
   · simp only[cr,f,hs,not_true_eq_false,bR,ab g];rw[ab (by simp only[abz];exact⟨hc,hb,hl⟩)];simp[p.2]
   · subst e;exact q _ _ rfl
def I0(ix:I)(l:List Int):Prop:=∃tk,ix = .ak tk l.length (l.map (J))
theorem I0.sc{x:I}{l:List Int}(h:I0 x l):x.scalar=true∧x.known=true∧x.cells=[x]:=by obtain⟨tk,rfl⟩:=h;exact⟨rfl,rfl,rfl⟩
end Rb

namespace Rb
open Go
section
variable{C:Ctx}(aj:bN C)(hT:Cl (af C) S.bu)
include aj hT
end
end Rb

namespace Rb
open Go
theorem cC.move{n0 sz a:Nat}{H H':Z}{x y:I}{cells:List I}(h:cC n0 H sz x a cells)(k:∀i o,At H i o→(∀l c,y ≠ .ak (.own i) l c)→At H' i o)(d:∀i l c,y = .ak (.own i) l c→∀l' c',x ≠ .ak (.own i) l' c'):cC n0 H' sz x a cells:=by
 obtain⟨tk,b,hc,ht⟩:=h;refine⟨tk,b,hc,?_⟩;rcases ht with q|q|⟨t,q,f,g⟩
 ·exact .inl q
 ·exact .inr (.inl q)
 · refine .inr (.inr ⟨t,q,f,k t _ g λl c e=>?_⟩);exact d t l c e _ _ (by rw[b,q])
theorem cC.S5{n0 sz c i:Nat}{H:Z}{x:I}{cells cs:List I}(h:cC n0 H sz x c cells)(d:At H i (.row cs))(o:bM):cC n0 (H.set i o) sz x c cells:=h.frame λt a b ht=>ht.bZ (λe=>by subst e;have:=ht.2.symm.trans d.2;cases this) _
theorem Ext.aJ{H a b:Z}(E:Z.Ext H a)(hn:a.n≤b.n)(k:∀i o,i<H.n→At a i o→At b i o):Z.Ext H b:=⟨xl E.1 hn,λi hi=>((k i _ hi ⟨AH hi E.1,rfl⟩).2).trans (E.2 i hi)⟩
section
variable{C:Ctx}(aj:bN C)(hT:Cl (af C) S.bu)
include aj hT
end
end Rb

namespace Rb
open Go
section
variable{Φ:ai}{H:Z}{Q:ad}
end
end Rb

namespace Rb
open Go
section
variable{Φ:ai}{H:Z}{Q:ad}
end
section
variable{C:Ctx}(aj:bN C)(hT:Cl (af C) S.bu)
include aj hT
end
end Rb

namespace Rb
open Go
section
variable{C:Ctx}(aj:bN C)(hT:Cl (af C) S.bu)
include aj hT
end
end Rb

namespace Rb
open Go
variable{t:U}{p:K}{r:List K}{sp:be}{i:Int}{q idx:List Int}
def hX:List K→Nat
 |[]=>0
 |p::r=>p.bc.length+hX r
theorem S6(h:(cV t p).1=0):p.bc.length≤1:=by
 unfold cV at h;by_cases c1:1<p.bc.length∨(p.bc.length=1↔p.field≠[])
 · rw[aa c1]at h;have:(8:Int)=0:=h;omega
 ·omega
theorem kH(h:(cb t (p::r)).1=0):(cV t p).1=0∧(cb (cV t p).2 r).1=0:=by
 rw[cb]at h;by_cases c:(cV t p).1≠0
 ·rw[aa c]at h;exact absurd h c
 ·rw[ab c]at h;exact⟨by omega,h⟩
theorem Bs:∀{r:List K}{t:U},(cb t r).1=0→hX r≤r.length
 |[],_,_=>sl _
 | p::r,t,h=>by obtain⟨h1,a⟩:=kH h;have:=S6 h1;have:=Bs a;rw[hX,abD];omega
theorem Bt:∀(r:List K)(n:Int),0≤n→n+hX r≤9223372036854775807→gj r n=n+hX r
 |[],n,_,_=>by rw[gj,hX];simp
 | p::r,n,a,h1=>by rw[hX]at h1;have hw:V (n+(p.bc.length:Nat))=n+(p.bc.length:Nat):=bH;rw[gj,hw,Bt r _ (by omega) (by omega),hX];omega
theorem S7(h:p.bc.length=1)(hi:i≥lJ t.ba):eU (p::r) t sp (i::q)=none:=by unfold eU;rw[aa h];dsimp only;rw[aa hi]
theorem S8{t e:U}{a:List U}(h:p.bc.length=1)(hi:¬i≥lJ t.ba)(b:t.aU=e::a):eU (p::r) t sp (i::q)=eU r e {sp with at_:=V (sp.at_+V (Y6 .i64 i*(aX e).1.1)),len:=(aX e).1.1} q:=by
 conv=>lhs;unfold eU
 rw[aa h];dsimp only;rw[ab hi,b]
theorem S9{f:aw}{s sp:be}{n:Nat}(h:p.bc.length≠1)(a:t.aE.findIdx? (λf=>f.E==p.field)=some n)(b:t.aE[n]?=some f)(c:(cq t)[n]?=some s):eU (p::r) t sp idx=eU r f.type {s with at_:=V (s.at_+sp.at_)} idx:=by
 conv=>lhs;unfold eU
 rw[ab h,a];dsimp only;rw[b,c]
section
variable{C:Ctx}(aj:bN C)(hT:Cl (af C) S.bu)
include aj hT
theorem S_{vars:List B}(hl:vars.length≤1000000)(hv:∀v∈vars,v.ok){x:aN}(al:x.ok){ix:I}(az:sa ix idx){H:Z}{Q:ad}(hQ:∀e H',Z.Ext H H'→Q (.aq [.agg (dI vars x idx).cells,J e]) H'):af C 19 [au B.cells vars,.agg x.cells,ix] H Q:=by
 obtain⟨bA,bB⟩:=aN.fP al;refine S.O3 hT ?_;unfold S.f19;simp only[qb,aR,aL,a_];have aA:=Z.Ext.push H (.row db.cells);have r1:=At.new H (.row db.cells);change af C 15 [au B.cells vars] (H.push (.row db.cells)) _;have n1:(H.push (.row db.cells)).n=H.n+1:=rfl;generalize H.push (.row db.cells)=H1 at *;have ret:∀(sp:be)(e:Int)(H2:Z),Z.Ext H H2→At H2 H.n (.row db.cells)→dI vars x idx=sp→Do (Y H2 6 (.ptr H.n 0) (.agg sp.cells)) λaE=>Do (O aE 6 true (.ptr H.n 0)) λy=>Q (.aq [y,J e]) aE:=by intro sp e H2 A m he;rw[m.put (n:=6) rfl rfl rfl];simp only[T];rw[(m.set _).all (n:=6) rfl];simp only[T];rw[he]at hQ;exact hQ e _ (A.set (sl _) _)
 have M:bo [D,D,D,P,D,D] []=some (.agg db.cells):=rfl;refine xc aj hT hl hv _ _ ?_;unfold jn;by_cases hm:(mapM vars).1≠0
 · rw[aa hm];simp only[bj,abj,abk,T,d_,aD];rw[aa (by simpa using hm),M];simp only[T];exact ret db _ H1 aA r1 (by unfold dI;rw[aa hm])
 rw[ab hm];obtain⟨a1,a2⟩:=SQ (show(mapM vars).1=0 by omega);simp only[bj,abj,abk,T,d_,aD];rw[eM];simp only[w9,T];refine Bc aj hT vars x (by rw[show maxLen=9223372036854775807 from by decide];omega) hv al _ _ ?_;rw[Be];simp only[bj,abj,abk,T,aR,aL,a_];rw[cS _ _ _ 6 (w6 _) (Bd _) rfl];have b2:=At.new H1 (.row (fG (bK vars x)));have m:=r1.push (.row (fG (bK vars x)));have A:=aA.trans (Z.Ext.push H1 (.row (fG (bK vars x))));have bC:H1.n≠H.n:=by omega
 generalize H1.push (.row (fG (bK vars x)))=H2 at *;simp only[T,d_,aD];by_cases hp:(bK vars x).1≠0
 · rw[aa (by simpa using hp),M];simp only[T];exact ret db _ H2 A m (by unfold dI;rw[ab hm,aa hp])
 rw[ab (by simpa using hp)];have am:(bK vars x).1=0:=by omega
 have l0:O H2 1 false (.ptr H1.n 0)=some (J (bK vars x).2.kind):=by rw[b2.load];unfold fG;rw[aa am,U.bF];rfl
 simp only[W,YI,T,l0,d_,cP,aT];have aG : ∀b:Bool,(b=true↔¬((bK vars x).2.kind=1∨(bK vars x).2.kind=2))→S.uI (af C) (au B.cells vars) ix (.ae x.cells) (.ptr H.n 0) (.ak .dead vars.length (dw vars (mapM vars).2.2)) (.ptr H1.n 0) Q [.bool b] H2:=by
  intro b hb;simp only[S.uI,aF,aD];apply aI<;>intro hk
  · rw[M];simp only[T];exact ret db _ H2 A m (by unfold dI;rw[ab hm,ab hp,aa (hb.1 hk)])
  have an:¬¬((bK vars x).2.kind=1∨(bK vars x).2.kind=2):=λe=>hk (hb.2 e);have a4:bp false ix=some (J idx.length):=by obtain⟨tk,rfl⟩:=az;rfl
  simp only[a4,w9,T];refine SS aj hT al _ _ ?_;simp only[d_,T,aD];apply aI<;>intro hc
  · rw[M];simp only[T];exact ret db _ H2 A m (by unfold dI;rw[ab hm,ab hp,ab an,aa (by simpa using hc)])
  have aH:¬(idx.length:Int)≠gj x.aB 0:=by simpa using hc
  have u:dI vars x idx=match vars.findIdx? (λv=>v.E==x.var)with
    |none=>db
    | some n=>match vars[n]?,(mapM vars).2.2[n]? with
     | some v,some g=>match eU x.aB v.type {db with at_:=g.at_,len:=g.len} idx with
      |some sp=>{sp with kind:=(bK vars x).2.kind}
      |none=>db
     |_,_=>db:=by
   unfold dI;first|(rw[ab hm,ab hp,ab an,ab aH];done)|(rw[ab hm,ab hp,ab an,ab aH];rfl)
  have c:(bK vars x).1=0:=am;obtain ⟨n,v,aK,N,bE,bG,a8⟩:∃n v,vars.findIdx? (λv=>v.E==x.var)=some n∧vars[n]?=some v∧vars.find? (λv=>v.E==x.var)=some v∧eg v.type=0∧bK vars x=cb v.type x.aB:=by
   rcases nV (λv:B=>v.E==x.var) vars with⟨i,v,h1,j,a9⟩|⟨h1,j⟩
   · refine ⟨i,v,h1,a9,j,?_,?_⟩
     · unfold bK at c;rw[j]at c;dsimp only at c;by_cases hs:eg v.type≠0
       ·rw[aa hs]at c;exact absurd c hs
       ·omega
     · unfold bK;unfold bK at c;rw[j]at c ⊢;dsimp only at c ⊢;by_cases hs:eg v.type≠0
       ·rw[aa hs]at c;exact absurd c hs
       ·rw[ab hs]
   · unfold bK at c;rw[j]at c;have:(6:Int)=0:=c;omega
  have aM:=(XV.1 N).1;have aQ:=aaH N;have ba:n<(mapM vars).2.2.length:=by rw[a1];exact aM
  obtain⟨g,aU⟩:∃g,(mapM vars).2.2[n]?=some g:=⟨_,YO ba⟩
  rw[aK]at u;dsimp only at u;rw[N,aU]at u;dsimp only at u;have bb:v.type.lay:=mY (by have:=hv v aQ;cases v;exact this.2) (a2 v aQ);rw[a8]at c;have bc:idx.length=hX x.aB:=by have h1:=Bs c;have j:=Bt x.aB 0 (ab_ _) (by omega);omega
  simp only[aT,S.ET];refine S.wc hT ?_;refine wC (p:=λv=>v.E==x.var) (λw _ R bd=>S.Pc hT (by
    unfold S.f44;have hb:aO H2 false 7 (.agg w.cells)=some (.ae w.cells,H2):=by unfold aO;rw[aa ⟨rfl,w.len⟩];rfl
    have l0:O H2 1 false (.ae (w.cells.drop 0))=some (.str w.E):=p6 w;have l1:O H2 1 false (.ae (x.cells.drop 0))=some (.str x.var):=Bj x H2;rw[hb];simp only[aR,W,T,l0,l1,iU];exact bd)) (by omega) ?_
  rw[aK];simp only[ga];rw[cQ aM];simp only[T,dN,W];rw[Ay v H2 N];have bf:aP none 3 (.ak .dead vars.length (dw vars (mapM vars).2.2)) (J n)=some (.ae ((dw vars (mapM vars).2.2).drop (n*3))):=by show(if 0≤(n:Int)∧(n:Int)<(vars.length:Nat)then some (I.ae ((dw vars (mapM vars).2.2).drop ((n:Int).toNat*3)))else none)=_;rw[aa ⟨by omega,by omega⟩,Y7]
  have bg:∀(a:List B)(s:List be)(n:Nat)(v:B)(g:be),a[n]?=some v→s[n]?=some g→∃tl,(dw a s).drop (n*3) = .str v.E :: J g.at_ :: J g.len::tl:=by
   intro a;induction a with
   |nil=>intro s n v g h;simp at h
   | cons y a ac=>
    intro s n v g h1 j;cases s with
    |nil=>simp at j
    | cons z s=>
     cases n with
     | zero=>simp at h1 j;subst h1;subst j;exact⟨dw a s,rfl⟩
     | succ n=>obtain⟨tl,e⟩:=ac s n v g (by simpa using h1) (by simpa using j);refine⟨tl,?_⟩;rw[dw,show(n+1)*3=n*3+3 by omega];exact e
  obtain⟨tl,bh⟩:=bg vars (mapM vars).2.2 n v g N aU;simp only[T,bf,bh,List.drop_succ_cons,abt];have bi:O H2 2 true (.ae (J g.at_ :: J g.len::tl))=some (.agg [J g.at_,J g.len]):=by show bU _ 0 2 true=_;exact p2 (a:=[J g.at_,J g.len]) rfl
  simp only[bi,T];refine⟨.agg ({db with at_:=g.at_,len:=g.len}:be).cells,rfl,?_⟩;dsimp only;obtain⟨tk,aV⟩:=az;have bk:bo [D,D,P,aS,D,aS,D,D,D,P,D,D,aS] [(0,6,.agg v.type.cells),(6,6,.agg ({db with at_:=g.at_,len:=g.len}:be).cells),(12,1,ix)]=some (.agg (e4 v.type {db with at_:=g.at_,len:=g.len} ix)):=by rw[gl,U.bF,aV];rfl
  rw[bk];simp only[T];have bl:aO H2 true 13 (.agg (e4 v.type {db with at_:=g.at_,len:=g.len} ix))=some (.ptr H2.n 0,H2.push (.row (e4 v.type {db with at_:=g.at_,len:=g.len} ix))):=by unfold aO;rw[aa ⟨rfl,by rw[gl];rfl⟩];rfl
  rw[bl,aR];simp only[Bi,r8,T,cU];have a3:=At.new H2 (.row (e4 v.type {db with at_:=g.at_,len:=g.len} ix));have bm:=m.push (.row (e4 v.type {db with at_:=g.at_,len:=g.len} ix));have b3:=b2.push (.row (e4 v.type {db with at_:=g.at_,len:=g.len} ix));have bn:=A.trans (Z.Ext.push H2 (.row (e4 v.type {db with at_:=g.at_,len:=g.len} ix)));have bI:H.n<H2.n∧H1.n<H2.n:=⟨m.1,b2.1⟩
  have F:H.n≠H2.n∧H1.n≠H2.n:=⟨by omega,by omega⟩
  have aJ:∀{d ag:Z},Z.Ext H d→b7 H2.n d ag→Z.Ext H ag:=λ{d ag} e k=>⟨xl e.1 k.1,λi hi=>((k.2 i (d.o i) (by omega) ⟨AH hi e.1,rfl⟩).2).trans (e.2 i hi)⟩
  have main:∀(r:List K)(i:Nat)(t:U)(sp:be)(G:I)(L:List Int)(d:Z),x.aB.drop i=r→t.lay→(cb t r).1=0→sa G L→L.length=hX r→Z.Ext H d→At d H2.n (.row (e4 t sp G))→At d H.n (.row db.cells)→At d H1.n (.row (fG (bK vars x))) →
    eU r t sp L=eU x.aB v.type {db with at_:=g.at_,len:=g.len} idx →
    aC (S.uH (af C) (.ptr H.n 0) (.ptr H1.n 0) (.ptr H2.n 0) (au K.cells x.aB) (J x.aB.length) Q) ([J i],d):=by
   intro r;induction r with
   | nil=>
    intro i t sp G L d ao ht aW hi ah ap a5 ar av hw;have hle:=er ao;refine aC.step ?_;simp only[S.uH,aF,bD,T,aD,aT,S.ES];rw[ee];have bq:O d 1 false (.ptr H1.n 0)=some (J (bK vars x).2.kind):=by rw[av.load];unfold fG;rw[aa am,U.bF];rfl
    simp only[aZ,W,YI,bq,T];rw[S3 a5];simp only[T];have a6:=a5.set (.row (e4 t {sp with kind:=(bK vars x).2.kind} G));rw[SY a6];simp only[T];rw[eU]at hw;rw[←hw]at u;exact ret _ _ _ (aJ ap (b7.set _ _ _)) (ar.bZ F.1 _) u
   | cons p r ac=>
    intro i t sp G L d ao ht aW hi ah ap a5 ar av hw;obtain⟨br,bs,aX⟩:=ed ao;obtain⟨bt,ai⟩:=kH aW;rw[hX]at ah;refine aC.step ?_;simp only[S.uH,aF,bD,T,aD];rw[dW,cQ br];simp only[T];rw[dD K.len (by decide) _ bs];simp only[T,aR,aL,a_];rw[cS _ _ _ 2 p.len p.scalar rfl];have bu:=At.new d (.row p.cells);have a6:=a5.push (.row p.cells);have aw:=ar.push (.row p.cells);have aY:=av.push (.row p.cells);have ax:=ap.trans (Z.Ext.push d (.row p.cells));simp only[T];rw[bu.load,gL p.len];simp only[T];generalize d.push (.row p.cells)=ag at *;have a0:Y6 .i64 ((i:Int)+1)=((i+1:Nat):Int):=by rw[bH];simp
    refine S4 aj hT a6 ht hi bt (by omega) (λi0 q e bv V c1 c2 c3 X l=>?_) (λi0 q e bv bw V c1 c2 c3 X c5 ay bx l a7=>?_) (λn' f s V bz c1 c2 c3 X c5 ay l a7=>?_)
    · simp only[ec,T,aD,Bool.not_false,a_,M];refine ret db _ V (aJ ax l) (l.2 _ _ F.1 aw) ?_;rw[c2,S7 c1 X]at hw;rw[←hw]at u;exact u
    · simp only[ec,T,aD,abW,ZP,bR,b4,a0];refine ac (i+1) e _ bw q V aX bx ?_ ay ?_ (aJ ax l) a7 (l.2 _ _ F.1 aw) (l.2 _ _ F.2 aY) ?_
      ·rw[c5]at ai;exact ai
      ·rw[c2,abD]at ah;omega
      · rw[c2,S8 c1 X c3]at hw;exact hw
    · simp only[ec,T,aD,abW,ZP,bR,b4,a0];refine ac (i+1) f.type _ G L V aX ay ?_ hi ?_ (aJ ax l) a7 (l.2 _ _ F.1 aw) (l.2 _ _ F.2 aY) ?_
      ·rw[c5]at ai;exact ai
      ·rw[c1,List.length_nil]at ah;omega
      · rw[S9 bz c2 c3 X]at hw;exact hw
  exact main x.aB 0 v.type _ ix idx _ rfl bb c ⟨tk,aV⟩ bc bn a3 bm b3 rfl
 apply aI<;>intro h1
 · refine aG _ ?_;simp only[bne_iff_ne,ne_eq]at h1 ⊢;omega
 · refine aG false ⟨λe=>(by cases e),λe=>?_⟩;simp only[bne_iff_ne,ne_eq]at h1;omega
end
end Rb

namespace Rb
open Go
variable{E:List UInt8}{i:Nat}
theorem I1:∀(L:List (List UInt8×Int)) (k:Nat) (l:List UInt8×Int) (v:Int),L[k]?=some l→(L.flatMap r9).set (k*2+1) (bY v)=(L.set k (l.1,v)).flatMap r9
 |[],k,l,v,h=>by simp at h
 | x::r,0,l,v,h=>by simp at h;subst h;rfl
 | x::r,k+1,l,v,h=>by have:=I1 r k l v (by simpa using h);rw[show(k+1)*2+1=k*2+1+1+1 by omega,List.set_cons_succ,abe,abe,←this];rfl
section
variable{C:Ctx}(aj:bN C)(hT:Cl (af C) S.bu)
include aj hT
variable{vars:List B}{s:RS}{lx px:I}{H:Z}{id:Nat}{Q:ad}
end
theorem I2{s:RS}(hi:s.aG.findIdx? (λl=>l.1==E)=some i):∃l,s.aG[i]?=some l∧l.1=E∧s.get E=l.2∧∀v,s.put E v={s with aG:=s.aG.set i (l.1,v)}:=by
 rcases nV (λl:List UInt8×Int=>l.1==E) s.aG with⟨j,l,h1,a,b⟩|⟨h1,a⟩
 · rw [hi]at h1;cases h1;have hn:l.1=E:=by
    have:=List.find?_some a;simpa using this
   refine⟨l,b,hn,by unfold RS.get;rw[a],λv=>?_⟩;unfold RS.put;rw[hi,hn]
 ·rw[hi]at h1;cases h1
theorem Ta{L:List (List UInt8×Int)}(h:E∈L.map (·.1)):∃i,L.findIdx? (λl=>l.1==E)=some i:=by
 rcases nV (λl:List UInt8×Int=>l.1==E) L with⟨j,l,h1,a,b⟩|⟨h1,a⟩
 ·exact⟨j,h1⟩
 · rw[List.find?_eq_none]at a;obtain⟨l,hl,rfl⟩:=aay.1 h;exact absurd (by simp) (a l hl)
theorem kg.put{H:Z}{id j m i:Nat}{L:List (List UInt8×Int)}{cs:List I}{l:List UInt8×Int}(b:j≠id)(a:At H j (.row cs))(c:cs.length=m*2)(d:L.length≤m)(e:cs.take (L.length*2)=L.flatMap r9)(hi:L[i]?=some l)(v:Int) :
  Y H 1 (.ptr j (i*2+1)) (bY v)=some (H.set j (.row (cs.set (i*2+1) (bY v))))∧kg (H.set j (.row (cs.set (i*2+1) (bY v)))) id (L.set i (l.1,v)) (.row j 0 L.length 2):=by
 have f:=(XV.1 hi).1;refine⟨?_,.inr ⟨j,_,m,by simp,b,a.set _,by simpa using c,by simpa using d,?_⟩⟩
 ·rw[a.store,aa ⟨rfl,rfl,rfl,by omega⟩];rfl
 ·rw[aag,List.take_set,e,I1 L i l v hi]
theorem kg.app{H:Z}{id:Nat}{L:List (List UInt8×Int)}{x:I}(h:kg H id L x)(A:id<H.n)(hl:L.length≤1000000)(E:List UInt8)(v:Int){K:ad}
  (f:∀a H',H.n≤H'.n→(∀j o,j≤id→(∀c d e,x ≠ .row j c d e)→At H j o→At H' j o)→kg H' id (L++[(E,v)]) a→(∀c d e,a ≠ .row id c d e)→a.known=true→a.cells=[a]→a.scalar=true→(∀j c d e,a = .row j c d e→(∃c' w y,x = .row j c' w y)∨H.n≤j)→(∀j o,(∀cs,o ≠ .row cs)→At H j o→At H' j o)→K a H') :
  ar (cr H true 2 24 x (.ak .full 1 [.str E,bY v])) K:=by
 have p:fi H 2 (.ak .full 1 [.str E,bY v])=some (1,[.str E,bY v]):=rfl;rcases h with⟨rfl,rfl⟩|⟨j,cs,m,rfl,r,b,z,B,g⟩
 · refine⟨.row H.n 0 1 2,H.push (.row [.str E,bY v]),rfl,?_⟩;refine f _ _ (YB _) (λj o _ _ h=>h.push _) (.inr ⟨H.n,_,1,rfl,by omega,At.new H _,rfl,sl _,rfl⟩) (λc d e h=>?_) rfl rfl rfl (λj c d e h=>?_) (λj o _ h=>h.push _)
   ·simp only[I.row.injEq]at h;omega
   ·simp only[I.row.injEq]at h;right;omega
 · by_cases hc : L.length+1≤m
   · refine ⟨.row j 0 (L.length+1) 2,H.set j (.row (setCells cs (L.length*2) [.str E,bY v])),?_,?_⟩
     · simp only[cr,p,b.2];simp only[aaG,acj,I.scalar,ack,not_true_eq_false,bR];rw[eM,ab (by simp only[abz];exact⟨trivial,trivial,by omega,by omega⟩),cG]
     · refine f _ _ (sl _) (λq o _ hn h=>h.bZ (λe=>hn 0 L.length 2 (by rw[e])) _) (.inr ⟨j,_,m,by simp,r,b.set _,?_,by simpa using hc,?_⟩) (λc d e h=>?_) rfl rfl rfl (λq c d e h=>?_) (λq o i h=>h.bZ (λe=>by subst e;exact i cs (h.2.symm.trans b.2)) _)
       · show((cs.set (L.length*2) (.str E)).set (L.length*2+1) (bY v)).length=_;simpa using z
       · rw [abC,aci];show((cs.set (L.length*2) (.str E)).set (L.length*2+1) (bY v)).take ((L.length+1)*2)=_;have e1 : ((cs.set (L.length*2) (I.str E)).set (L.length*2+1) (bY v)).take ((L.length+1)*2)=cs.take (L.length*2)++[.str E,bY v]:=by
          apply acz;intro q;rw[XX];have k:(cs.take (L.length*2)).length=L.length*2:=by rw[abX];omega
          by_cases s:q<(L.length+1)*2
          · rw [aa s,Ym,Ym];by_cases t:L.length*2+1=q
            · subst t;rw[aa rfl,oL,Zz (by omega),k,show L.length*2+1-L.length*2=1 by omega];rfl
            · rw [ab t];by_cases u:L.length*2=q
              · subst u;rw[aa rfl,cG,Zz (by omega),k,acA];rfl
              ·rw[ab u,Zy (by omega),XX,cG]
          ·rw[ab s,aab (by simp[k];omega)]
         rw[e1,g,acB];rfl
       ·simp only[I.row.injEq]at h;exact r h.1
       ·simp only[I.row.injEq]at h;exact .inl ⟨0,L.length,2,by rw[h.1]⟩
   · have l:cs.length=L.length*2:=by omega
     refine⟨.row H.n 0 (L.length+1) 2,(H.set j .gone).push (.row (cs++[.str E,bY v])),?_,?_⟩
     · simp only[cr,p,b.2];simp only[aaG,acj,I.scalar,ack,not_true_eq_false,bR];rw[eM,ab (by simp only[abz];exact⟨trivial,trivial,by omega,by omega⟩),bw,cG]
     · refine f _ _ (YB _) (λq o _ hn h=>(h.bZ (λe=>hn 0 L.length 2 (by rw[e])) _).push _) (.inr ⟨H.n,_,L.length+1,by simp,by omega,At.new (H.set j .gone) _,by simp[l];omega,by simp,?_⟩) (λc d e h=>?_) rfl rfl rfl (λq c d e h=>?_) (λq o i h=>(h.bZ (λe=>by subst e;exact i cs (h.2.symm.trans b.2)) _).push _)
       · rw[abC,aci,abG (by simp[l];omega)];rw[←l,abu]at g;rw[g,acB];rfl
       ·simp only[I.row.injEq]at h;omega
       ·simp only[I.row.injEq]at h;right;omega
end Rb

namespace Rb
open Go
variable{H H':Z}{s:RS}{lx px:I}
section
variable{α:Type}{cells:α→List I}{sz:Nat}(hc:∀x,(cells x).length=sz)
include hc
theorem I3:∀xs:List α,(xs.flatMap cells).length=xs.length*sz
 |[]=>by simp
 |x::r=>by rw[abe,abC,hc,I3 r,abD,Yu];omega
theorem Bu:∀(xs:List α)(k:Nat),(xs.flatMap cells).take (k*sz)=(xs.take k).flatMap cells
 |[],k=>by simp
 |x::r,0=>by simp
 | x::r,k+1=>by rw[abe,List.take_succ_cons,abe,show(k+1)*sz=(cells x).length+k*sz by rw[hc,Yu];omega,List.take_length_add_append,Bu r k]
theorem Tb(xs:List α){k:Nat}(a:k≤xs.length):du sz (au cells xs) none (some (J k)) none=some (au cells (xs.take k)):=by
 show du sz (.ak .dead xs.length (xs.flatMap cells)) none (some (J k)) none=some (.ak .dead (xs.take k).length ((xs.take k).flatMap cells));simp only[du,eo,aco];rw[cG];simp only[Y7];rw[aa ⟨Yt _,a,I3 hc xs⟩];by_cases e:k=xs.length
 · subst e;rw[aa ⟨trivial,rfl⟩,abu]
 ·rw[ab (λh=>e h.2),abo,abt,Bu hc,aa trivial,aaQ,abX,acp a]
end
theorem b7.left{id:Nat}{H0 H H':Z}(h:b7 id H0 H)(k:Left H0.n H H'):b7 id H0 H':=⟨xl h.1 k.1,λj o b a=>k.2 j o (h.2 j o b a) (.inl a.1)⟩
structure kI(H:Z)(id:Nat)(vars:List B)(L:List (List UInt8))(s:RS)(lx px:I):Prop where
 row:At H id (.row (w_ vars s lx px))
 loc:kg H id s.aG lx
 ok:s.ok
 len:s.aG.length≤1000000
 nm:s.stop=false→s.aG.map (·.1)=L
 fl:s.stop=false→0≤s.fuel∧s.fuel+s.aG.length≤1000000∧s.fuel+s.pr.length≤1000000
 pl:s.pr.length≤1000000
theorem kI.aJ{id:Nat}{vars:List B}{L:List (List UInt8)}(h:kI H id vars L s lx px)(k:b7 id H H')(a:At H' id (.row (w_ vars s lx px))):kI H' id vars L s lx px:=⟨a,h.loc.aJ k,h.ok,h.len,h.nm,h.fl,h.pl⟩
theorem kI.next{id:Nat}{vars:List B}{L:List (List UInt8)}{s s':RS}(h:kI H id vars L s lx px)(k:b7 id H H')(b:At H' id (.row (w_ vars s' lx px)))(a:Kp s s')(c:s'.ok):kI H' id vars L s' lx px:=
 ⟨b,by rw[a.aG];exact h.loc.aJ k,c,by rw[a.aG];exact h.len,λe=>by rw[a.aG];exact h.nm (a.stop e),λe=>by have h1:=h.fl (a.stop e);have d:=a.fu h1.1 (by omega) e;rw[a.aG,a.pr];exact⟨d.1,by omega,by omega⟩,by rw[a.pr];exact h.pl⟩
section
variable{C:Ctx}(aj:bN C)(hT:Cl (af C) S.bu){id:Nat}{vars:List B}{L:List (List UInt8)}
include aj hT
end
end Rb

namespace Rb
open Go
def ek(a:Int)(v:B):Int:=bO a (aX v.type).1.2
def ff:Int→List B→Int
 |a,[]=>a
 |a,v::r=>ff (ek a v+(aX v.type).1.1) r
theorem Tc{t:U}(h:(aX t).2=0):eg t=0∧(A t).2=true∧(aX t).1=(A t).1:=by
 unfold aX at h ⊢;split at h
 ·rename_i q;exact absurd h q
 · rename_i q;rw[ab q];split at h
   ·cases h
   · rename_i b;rw[ab b];split at h
     ·cases h
     · rename_i a;rw[ab a];exact⟨by simpa using q,by simpa using a,rfl⟩
theorem mi{t:U}(h:(aX t).2=0):0≤(aX t).1.1∧(aX t).1.1≤65536∧1≤(aX t).1.2∧(aX t).1.2≤16:=by obtain⟨h1,a,b⟩:=Tc h;rw[b];exact A4 t (fD h1) a
theorem xd:∀{l:List B}{a:Int},(∀v∈l,(aX v.type).2=0)→a≤ff a l
 |[],a,_=>ab_ _
 | v::r,a,h=>by have hb:=mi (h v (aaj ..));have hu:=gE (n:=a) (step:=(aX v.type).1.2) (by omega);have:=xd (l:=r) (a:=ek a v+(aX v.type).1.1) (λw hw=>h w (aai _ hw));rw[ff];unfold ek at this ⊢;omega
section
variable{C:Ctx}(aj:bN C)(hT:Cl (af C) S.bu)
include aj hT
end
end Rb

namespace Rb
open Go
end Rb

namespace Rb
open Go
def bt(a:Int)(i:Nat):Bool:=a.toNat.testBit i
section
variable{C:Ctx}(aj:bN C)(hT:Cl (af C) S.bu)
include aj hT
end
end Rb

namespace Rb
open Go
def bW:Int→List B→List be
 |_,[]=>[]
 |a,v::r=>⟨65536+ek a v,(aX v.type).1.1,0,false,0,0⟩::bW (ek a v+(aX v.type).1.1) r
theorem I4:∀{l:List B}{a:Int}{b:List be},0≤a→a≤65536→(∀v∈l,(aX v.type).2=0)→ff a l≤65536→eH l a b=(0,ff a l,b++bW a l)
 |[],a,b,c,h1,hv,he=>by rw[eH,ff,bW,abK]
 | v::r,a,b,c,h1,hv,he=>by
  have hz:=hv v (aaj ..);have d:∀v∈r,(aX v.type).2=0:=λw hw=>hv w (aai _ hw);obtain⟨b1,b2,b3,g⟩:=mi hz;have hu:=gE (n:=a) (step:=(aX v.type).1.2) (by omega);rw[ff]at he ⊢;have hle:=xd (a:=ek a v+(aX v.type).1.1) d;have h:ek a v=bO a (aX v.type).1.2:=rfl;have f:oi a v=ek a v:=by have e:V (V (acw (V (V (a+(aX v.type).1.2)-1)) (aX v.type).1.2)*(aX v.type).1.2)=ek a v:=mU c (by omega) (by omega) (by omega);unfold oi;rw[e,bw]
  rw[IM,ab (by rw[hz];decide),f,show V (ek a v+(aX v.type).1.1)=ek a v+(aX v.type).1.1 from bH,show V (65536+ek a v)=65536+ek a v from bH,I4 (by omega) (by omega) d he,bW,acC];rfl
theorem xe{vars:List B}(hv:∀v∈vars,(aX v.type).2=0)(a:ff 0 vars≤65536):mapM vars=(0,ff 0 vars,bW 0 vars):=by unfold mapM;rw[I4 (by decide) (by decide) hv a];simp only[acx];rw[eM,bw]
theorem qd:∀{l:List B}{a:Int}{n:Nat}{v:B},l[n]?=some v→∃g tl,(bW a l)[n]?=some g∧g={db with at_:=g.at_,len:=g.len}∧(dw l (bW a l)).drop (n*3) = .str v.E :: J g.at_ :: J g.len::tl
 | w::r,a,0,v,h=>by simp at h;subst h;exact⟨_,_,rfl,rfl,rfl⟩
 | w::r,a,n+1,v,h=>by obtain⟨g,tl,h1,b,c⟩:=qd (l:=r) (a:=ek a w+(aX w.type).1.1) (n:=n) (by simpa using h);refine⟨g,tl,h1,b,?_⟩;rw[bW,dw,show(n+1)*3=n*3+3 by omega];exact c
def Td(H:Z)(ix:I)(idx:List Int):Prop:=∀H',Z.Ext H H'→∀(k:Nat)(v:Int),idx[k]?=some v→∃p,aP none 1 ix (J k)=some p∧O H' 1 false p=some (bY v)
section
variable{C:Ctx}(aj:bN C)(hT:Cl (af C) S.bu)
include aj hT
end
end Rb

namespace Rb
open Go
section
variable{C:Ctx}(aj:bN C)(hT:Cl (af C) S.bu){id:Nat}{vars:List B}{L:List (List UInt8)}
include aj hT
end
end Rb

namespace Rb
open Go
section
variable{C:Ctx}(aj:bN C)(hT:Cl (af C) S.bu){id:Nat}{vars:List B}{L:List (List UInt8)}
include aj hT
end
end Rb

namespace Rb
open Go
section
variable{C:Ctx}(aj:bN C)(hT:Cl (af C) S.bu){id:Nat}{vars:List B}{L:List (List UInt8)}
include aj hT
end
end Rb

namespace Rb
open Go
section
variable{C:Ctx}(aj:bN C)(hT:Cl (af C) S.bu){id:Nat}{vars:List B}{L:List (List UInt8)}
include aj hT
end
end Rb

namespace Rb
open Go
variable{id:Nat}{H a b H':Z}{s:RS}{lx px:I}
theorem xf(s:RS)(x:List UInt8)(v:Int):(s.put x v).aG.length=s.aG.length:=by
 unfold RS.put;split
 ·exact aag
 ·rfl
section
variable(vars:List B)
variable(c:Nat)
end
def gN(L:List (List UInt8))(x:ay):List (List UInt8):=if x.kind=1 then L++[x.E]else L
def mj(id:Nat)(H H':Z):Prop:=H.n≤H'.n∧∀j o,j<id→At H j o→At H' j o
theorem mj.refl(id:Nat)(H:Z):mj id H H:=⟨sl _,λ_ _ _ h=>h⟩
theorem mj.trans{a b c:Z}(h:mj id a b)(k:mj id b c):mj id a c:=⟨xl h.1 k.1,λj o d e=>k.2 j o d (h.2 j o d e)⟩
theorem b7.fr(h:b7 id a b):mj id a b:=⟨h.1,λj o c d=>h.2 j o (YG c) d⟩
theorem mj.set{id j:Nat}(c:id≤j)(x:bM):mj id a (a.set j x):=⟨sl _,λi o hi b=>b.bZ (by omega) x⟩
structure qe(H:Z)(id:Nat)(vars:List B)(L:List (List UInt8))(s:RS)(lx px:I):Prop where
 m:kI H id vars L s lx px
 p:cC (id+1) H 1 px s.pr.length (s.pr.map (bY))
 lj:∀j c d e,lx = .row j c d e→id<j
theorem cC.Te{sz a:Nat}{x:I}{cells:List I}(h:cC (id+1) H sz x a cells)(k:b7 id H H'):cC (id+1) H' sz x a cells:=by
 obtain⟨tk,b,hc,ht⟩:=h;refine⟨tk,b,hc,?_⟩;rcases ht with ht|ht|⟨t,h1,c,d⟩
 ·exact .inl ht
 ·exact .inr (.inl ht)
 ·exact .inr (.inr ⟨t,h1,c,k.2 t _ (by omega) d⟩)
theorem qe.kp{vars:List B}{L a:List (List UInt8)}{s s':RS}(h:qe H id vars L s lx px)(k:b7 id H H')(b:kI H' id vars a s' lx px)(hp:s'.pr=s.pr):qe H' id vars a s' lx px:=⟨b,by rw[hp];exact cC.Te h.p k,h.lj⟩
theorem kI.over{vars:List B}{L a:List (List UInt8)}(h:kI H id vars L s lx px)(hs:s.stop=true):kI H id vars a s lx px:=⟨h.row,h.loc,h.ok,h.len,λe=>(by rw[hs]at e;cases e),h.fl,h.pl⟩
theorem qe.over{vars:List B}{L a:List (List UInt8)}(h:qe H id vars L s lx px)(hs:s.stop=true):qe H id vars a s lx px:=⟨h.m.over hs,h.p,h.lj⟩
end Rb

namespace Rb
open Go
variable{s:u}{d:Int}
theorem hj{a:Bool}{e:Int}(h:(s.cJ a e).bI=0)(b:e≠0):s.bI=0∧a=true:=by
 unfold u.cJ at h;split at h
 ·exact absurd h b
 · rename_i q;refine⟨h,?_⟩;cases a
   ·exact absurd ⟨rfl,h⟩ q
   ·rfl
theorem iz(s:u)(a:Bool)(e:Int):(s.cJ a e).g=s.g:=by unfold u.cJ;split<;>rfl
theorem xg{x:List UInt8}(h:s.has x=true):x∈s.g:=by
 unfold u.has at h;obtain⟨y,a,e⟩:=aav.1 h;have:x=y:=by simpa using e
 rw[this];exact a
theorem Tf{e:ax}(h:(eB s d e).bI=0):s.bI=0∧hU e=true:=by unfold eB at h;have h1:=hj h (by decide);have a:=hj h1.1 (by decide);have b:=hj a.1 (by decide);exact⟨b.1,a.2⟩
theorem Tg(s:u)(d:Int)(e:ax):(eB s d e).g=s.g:=by unfold eB;rw[iz,iz,iz]
theorem Th{e:ay}(h:(gh s d e).bI=0):s.bI=0∧jj e=true:=by unfold gh at h;have h1:=hj h (by decide);have a:=hj h1.1 (by decide);have b:=hj a.1 (by decide);exact⟨b.1,a.2⟩
theorem I5(s:u)(d:Int)(e:ay):(gh s d e).g=s.g:=by unfold gh;rw[iz,iz,iz]
section
variable(vars:List B)
theorem Ti(s:u)(k:Int)(x:aN):(ka vars s k x).g=s.g:=by unfold ka;dsimp only;rw[iz,iz]
variable(kw:List UInt8→Bool)
theorem Tj{x:ay}(h:jj x=true):1≤x.kind∧x.kind≤10∧x.bf.length≤2∧(¬(3≤x.kind∧x.kind≤7)→1≤x.bf.length)∧(x.kind=1→x.bg=[]∧x.bx=[]):=by
 unfold jj at h;simp only[X1,dU,X2,bG]at h;obtain⟨⟨⟨⟨⟨⟨⟨h1,d⟩,_⟩,_⟩,_⟩,a⟩,b⟩,c⟩:=h;unfold eG at a b c;refine⟨h1,d,?_,λe=>?_,λe=>?_⟩
 · repeat' split at a
   all_goals (dsimp only at a;omega)
 · repeat' split at a
   all_goals (dsimp only at a;omega)
 · rw[aa (.inl e)]at b c;simp at b c;exact⟨b,c⟩
theorem Tk(L:List (List UInt8))(x:ay){n:Nat}(h:n≤L.length):(gN L x).take n=L.take n∧n≤(gN L x).length:=by
 unfold gN;split
 ·exact⟨by rw[abF h],by rw[abC];omega⟩
 ·exact⟨rfl,h⟩
end
end Rb

namespace Rb
open Go
variable{s:u}{d:Int}{x:ay}
section
variable(vars:List B)
mutual
def vE(L:List (List UInt8)):ax→Prop
 | .mk kind n E op aV place bq=>hU (.mk kind n E op aV place bq)=true∧ir (V (10+kind)) aV=true∧(kind=2→E∈L)∧(kind≥4→vP L (V (10+kind)) place)∧hZ L bq
def hZ(L:List (List UInt8)):List ax→Prop
 |[]=>True
 |e::r=>vE L e∧hZ L r
def vP(L:List (List UInt8))(k:Int):aN→Prop
 | .mk var aB=>(bK vars (.mk var aB)).1=0∧jk k (bK vars (.mk var aB)).2=true∧lP L aB
def lP(L:List (List UInt8)):List K→Prop
 |[]=>True
 |p::r=>vR L p∧lP L r
def vR(L:List (List UInt8)):K→Prop
 | .mk field bc=>hZ L bc
end
mutual
def vS(L:List (List UInt8)):ay→Prop
 | .mk kind X E cg aV place bf bg bx=>jj (.mk kind X E cg aV place bf bg bx)=true∧ir kind aV=true∧(kind=1→E∉L)∧(kind=2→E∈L)∧(kind=5→E∈L∧cg∈L∧E≠cg)∧(3≤kind∧kind≤6→vP vars L kind place)∧hZ vars L bf∧vB L bg∧vB L bx
def vB(L:List (List UInt8)):List ay→Prop
 |[]=>True
 |x::r=>vS L x∧vB (gN L x) r
end
theorem I6(L:List (List UInt8))(e:ax):vE vars L e↔hU e=true∧ir (V (10+e.kind)) e.aV=true∧(e.kind=2→e.E∈L)∧(e.kind≥4→vP vars L (V (10+e.kind)) e.place)∧hZ vars L e.bq:=by cases e;rw[vE]
theorem m_(L:List (List UInt8))(k:Int)(x:aN):vP vars L k x↔(bK vars x).1=0∧jk k (bK vars x).2=true∧lP vars L x.aB:=by cases x;rw[vP]
theorem Tl(L:List (List UInt8))(p:K):vR vars L p↔hZ vars L p.bc:=by cases p;rw[vR]
theorem I7(L:List (List UInt8))(x:ay):vS vars L x↔jj x=true∧ir x.kind x.aV=true∧(x.kind=1→x.E∉L)∧(x.kind=2→x.E∈L)∧(x.kind=5→x.E∈L∧x.cg∈L∧x.E≠x.cg)∧(3≤x.kind∧x.kind≤6→vP vars L x.kind x.place)∧hZ vars L x.bf∧vB vars L x.bg∧vB vars L x.bx:=by cases x;rw[vS]
theorem Tm{k:Int}{x:aN}(h:(ka vars s k x).bI=0):(bK vars x).1=0∧jk k (bK vars x).2=true:=by
 unfold ka at h;dsimp only at h;have h1:=hj h (by decide);refine⟨?_,?_⟩
 · by_cases hp:(bK vars x).1=0
   ·exact hp
   · have:=(hj h1.1 hp).2;simpa using this
 · have a:=h1.2;rw[h1.1]at a;simpa using a
theorem Tn{e:ax}(h:(eB s d e).bI=0):ir (V (10+e.kind)) e.aV=true:=by unfold eB at h;exact(hj h (by decide)).2
theorem To(h:(gh s d x).bI=0):ir x.kind x.aV=true:=by unfold gh at h;exact(hj h (by decide)).2
theorem Tp{x:List UInt8}(h:(!s.has x)=true):x∉s.g:=by
 intro a;have:s.has x=true:=by unfold u.has;rw[aav];exact⟨x,a,by simp⟩
 rw[this]at h;cases h
mutual
theorem I8:∀(e:ax)(s:u)(d:Int),(lH vars s d e).bI=0→s.bI=0∧(lH vars s d e).g=s.g∧vE vars s.g e
 | .mk kind n E op aV place bq,s,d,h=>by
  rw[lH]at h ⊢;by_cases j:(eB s d (.mk kind n E op aV place bq)).bI≠0
  ·rw[aa j]at h;exact absurd h j
  · rw [ab j]at h ⊢;have hz:(eB s d (.mk kind n E op aV place bq)).bI=0:=by simpa using j
    have hl:=Tg s d (.mk kind n E op aV place bq);obtain⟨m,z2⟩:=Tf hz;have z3:=Tn hz;obtain⟨e1,b,a⟩:=Bv bq _ d h;rw[b,vE];by_cases hk:kind≥4
    · rw[aa hk,ab (show ¬kind=2 by omega)]at e1 b a ⊢;obtain⟨w,v,t⟩:=I9 place _ _ d e1;rw[v,hl]at a ⊢;rw[hl]at t;exact⟨m,rfl,z2,z3,λq=>absurd q (by omega),λ_=>t,a⟩
    · rw [ab hk]at e1 b a ⊢;by_cases o:kind=2
      · rw[aa o]at e1 b a ⊢;rw[iz,hl]at a ⊢;have:=xg (hj e1 (by decide)).2;rw[hl]at this;exact⟨m,rfl,z2,z3,λ_=>this,λq=>absurd q (by omega),a⟩
      · rw[ab o,hl]at a ⊢;exact⟨m,rfl,z2,z3,λe=>absurd e o,λq=>absurd q (by omega),a⟩
theorem Bv:∀(l:List ax)(s:u)(d:Int),(eC vars s d l).bI=0→s.bI=0∧(eC vars s d l).g=s.g∧hZ vars s.g l
 |[],s,d,h=>by rw[eC]at h ⊢;exact⟨h,rfl,trivial⟩
 | e :: r,s,d,h=>by
  rw[eC]at h ⊢;obtain⟨e1,b,a⟩:=Bv r _ d h;by_cases hs:s.bI≠0
  ·rw[aa hs]at e1;exact absurd e1 hs
  · rw[ab hs]at e1 b a ⊢;obtain⟨f,c,i⟩:=I8 e s _ e1;rw[b,c];rw[c]at a;rw[hZ];exact⟨f,rfl,i,a⟩
theorem I9:∀(x:aN)(s:u)(k d:Int),(kc vars s k d x).bI=0→s.bI=0∧(kc vars s k d x).g=s.g∧vP vars s.g k x
 | .mk var aB,s,k,d,h=>by
  rw[kc]at h ⊢;by_cases hs:s.bI≠0
  ·rw[aa hs]at h;exact absurd h hs
  · rw[ab hs]at h ⊢;obtain⟨e1,b,a⟩:=I_ aB _ d h;obtain⟨f1,f2⟩:=Tm vars e1;rw[Ti]at b a;rw[vP];exact⟨by simpa using hs,b,f1,f2,a⟩
theorem I_:∀(l:List K)(s:u)(d:Int),(hd vars s d l).bI=0→s.bI=0∧(hd vars s d l).g=s.g∧lP vars s.g l
 |[],s,d,h=>by rw[hd]at h ⊢;exact⟨h,rfl,trivial⟩
 | p::r,s,d,h=>by rw[hd]at h ⊢;obtain⟨e1,b,a⟩:=I_ r _ d h;obtain⟨f,c,i⟩:=Tq p s d e1;rw[b,c];rw[c]at a;rw[lP];exact⟨f,rfl,i,a⟩
theorem Tq:∀(p:K)(s:u)(d:Int),(mS vars s d p).bI=0→s.bI=0∧(mS vars s d p).g=s.g∧vR vars s.g p
 | .mk field bc,s,d,h=>by rw[mS]at h ⊢;rw[vR];exact Ja bc s d h
theorem Ja:∀(l:List ax)(s:u)(d:Int),(jH vars s d l).bI=0→s.bI=0∧(jH vars s d l).g=s.g∧hZ vars s.g l
 |[],s,d,h=>by rw[jH]at h ⊢;exact⟨h,rfl,trivial⟩
 | e::r,s,d,h=>by rw[jH]at h ⊢;obtain⟨e1,b,a⟩:=Ja r _ d h;obtain⟨f,c,i⟩:=I8 e s _ e1;rw[b,c];rw[c]at a;rw[hZ];exact⟨f,rfl,i,a⟩
end
variable(kw:List UInt8→Bool)
theorem Tr(h:(gM vars kw s d x).bI=0):s.bI=0∧(gM vars kw s d x).g=s.g∧(x.kind=1→x.E∉s.g)∧(x.kind=2→x.E∈s.g)∧(3≤x.kind∧x.kind≤6→vP vars s.g x.kind x.place):=by
 unfold gM at h ⊢;by_cases h1:x.kind=1
 · rw[aa h1]at h ⊢;rw[iz,iz,iz];have a:=hj h (by decide);have z2:=hj a.1 (by decide);have z3:=hj z2.1 (by decide);refine⟨z3.1,rfl,λ_=>?_,λe=>by omega,λe=>by omega⟩;have:=Tp z2.2;exact this
 · rw [ab h1]at h ⊢;by_cases b:x.kind=2
   · rw[aa b]at h ⊢;rw[iz];have a:=hj h (by decide);exact⟨a.1,rfl,λe=>absurd e h1,λ_=>xg a.2,λe=>by omega⟩
   · rw [ab b]at h ⊢;by_cases c:x.kind=3∨x.kind=4∨x.kind=5∨x.kind=6
     · rw[aa c]at h ⊢;obtain⟨f,i,j⟩:=I9 vars x.place s _ d h;exact⟨f,i,λe=>absurd e h1,λe=>absurd e b,λ_=>j⟩
     · rw[ab c]at h ⊢;exact⟨h,rfl,λe=>absurd e h1,λe=>absurd e b,λe=>by omega⟩
theorem Ts(h:(jl s x).bI=0):s.bI=0∧(jl s x).g=gN s.g x∧(x.kind=5→x.E∈s.g∧x.cg∈s.g∧x.E≠x.cg):=by
 unfold jl at h ⊢;unfold gN;by_cases h1:x.kind=1
 · rw[aa h1]at h ⊢;rw[aa h1];exact⟨h,rfl,λe=>by omega⟩
 · rw [ab h1]at h ⊢;rw[ab h1];by_cases a:x.kind=5
   · rw [aa a]at h ⊢;rw[iz,iz,iz];have b:=hj h (by decide);have z2:=hj b.1 (by decide);have z3:=hj z2.1 (by decide);refine⟨z3.1,rfl,λ_=>⟨xg z3.2,?_,?_⟩⟩
     ·exact xg z2.2
     · have:=b.2;simpa using this
   · rw[ab a]at h ⊢;exact⟨h,rfl,λe=>absurd e a⟩
theorem Tt(h:(gi vars kw s d x).bI=0):s.bI=0∧(gi vars kw s d x).g=gN s.g x∧jj x=true∧ir x.kind x.aV=true∧(x.kind=1→x.E∉s.g)∧(x.kind=2→x.E∈s.g)∧(x.kind=5→x.E∈s.g∧x.cg∈s.g∧x.E≠x.cg)∧(3≤x.kind∧x.kind≤6→vP vars s.g x.kind x.place)∧hZ vars s.g x.bf:=by unfold gi at h ⊢;obtain⟨r1,a,b⟩:=Ts h;obtain⟨e1,c,e⟩:=Bv vars x.bf _ d r1;obtain⟨f1,f2,f0,f3,f4⟩:=Tr vars kw e1;obtain⟨f,z2⟩:=Th f1;have z3:=To f1;rw[f2,I5]at c e;rw[I5]at f0 f3 f4;rw[c]at a b;exact⟨f,a,z2,z3,f0,f3,b,f4,e⟩
mutual
theorem Tu:∀(x:ay)(s:u)(d:Int),(stM vars kw s d x).bI=0→s.bI=0∧(stM vars kw s d x).g=gN s.g x∧vS vars s.g x
 | .mk kind X E cg aV place bf bg bx,s,d,h=>by
  rw[stM]at h ⊢;obtain⟨b1,b2,b3⟩:=xh bx _ _ _ (sl _) h;obtain⟨a1,a2,a3⟩:=xh bg _ _ _ (sl _) b1;have j:=b2.trans (show(List.take _ _)=_ from abu);obtain⟨c1,c2,c3,k,c5,m,o,p,t⟩:=Tt vars kw a1;have c:(fp vars kw (gi vars kw s d (.mk kind X E cg aV place bf bg bx)) (gi vars kw s d (.mk kind X E cg aV place bf bg bx)).g.length (V (d+1)) bg).g=gN s.g (.mk kind X E cg aV place bf bg bx):=by rw[a2,abu,c2]
  have b:vB vars (fp vars kw (gi vars kw s d (.mk kind X E cg aV place bf bg bx)) (gi vars kw s d (.mk kind X E cg aV place bf bg bx)).g.length (V (d+1)) bg).g bx:=b3;rw[c]at b;rw[c2]at a3;obtain⟨g1,g2,g3,g4,g5⟩:=Tj c3;refine⟨c1,j.trans c,?_⟩;rw[vS];refine⟨c3,k,c5,m,o,p,t,?_,?_⟩
  · by_cases hk:kind=1
    · have:bg=[]:=(g5 hk).1;subst this;rw[vB];trivial
    · have e:gN s.g (.mk kind X E cg aV place bf bg bx)=s.g:=by unfold gN;rw[ab hk]
      rw[e]at a3;exact a3
  · by_cases hk:kind=1
    · have:bx=[]:=(g5 hk).2;subst this;rw[vB];trivial
    · have e:gN s.g (.mk kind X E cg aV place bf bg bx)=s.g:=by unfold gN;rw[ab hk]
      rw[e]at b;exact b
theorem xh:∀(l:List ay)(s:u)(n:Nat)(d:Int),n≤s.g.length→(fp vars kw s n d l).bI=0→s.bI=0∧(fp vars kw s n d l).g=s.g.take n∧vB vars s.g l
 |[],s,n,d,hn,h=>by rw[fp]at h ⊢;rw[vB];exact⟨h,rfl,trivial⟩
 | x :: r,s,n,d,hn,h=>by
  rw[fp]at h ⊢;by_cases hs:s.bI≠0
  ·rw[aa hs,AP vars kw hs]at h;exact absurd h hs
  · rw [ab hs]at h ⊢;have hz:(stM vars kw (s.at x.X) d x).bI=0:=by
     by_cases q:(stM vars kw (s.at x.X) d x).bI=0
     ·exact q
     ·rw[AP vars kw q]at h;exact absurd h q
    obtain⟨w,a,v⟩:=Tu x (s.at x.X) d hz;have a:(stM vars kw (s.at x.X) d x).g=gN s.g x:=a;obtain⟨t1,t2⟩:=Tk s.g x hn;obtain⟨r1,f,i⟩:=xh r (stM vars kw (s.at x.X) d x) n d (by rw[a];exact t2) h;rw[a]at f i;rw[vB];exact⟨by simpa using hs,f.trans t1,v,i⟩
end
theorem Jb{p:cH}(h:(fq kw p).2=0):p.vars.length≤32∧kd kw p.vars=0∧∀t∈p.dd,vB p.vars [] t:=by
 unfold fq at h;split at h
 ·cases h
 · rename_i h1;split at h
   ·rename_i a;exact absurd h a
   · rename_i a;rw[HZ]at h;refine⟨by omega,by simpa using a,λt ht=>?_⟩;exact(xh p.vars kw t s0 0 1 (sl _) (h t ht)).2.2
end
end Rb

namespace Rb
open Go
structure RS.A(d:Int)(rest:List (Int×Int))(s1 s2:RS):Prop where
 eq:s2={s1 with fuel:=s1.fuel+d,dH:=s1.dH++rest}
 d0:0≤d
 fu:s1.stop=false→0≤s1.fuel∧s1.fuel+d≤1000000
 em:s1.empty=true→s1.stop=true
structure RS.D(d:Int)(rest:List (Int×Int))(s1 s2:RS):Prop where
 st:s1.stop=true
 pr:s1.pr <+: s2.pr
 em:s1.empty=true→0<d
 an:s1.empty=false→rest≠[]
theorem RS.D.right{d:Int}{rest:List (Int×Int)}{a b c:RS}(h:RS.D d rest a b)(hp:b.pr <+: c.pr):RS.D d rest a c:=⟨h.st,h.pr.trans hp,h.em,h.an⟩
theorem RS.A.stop{d:Int}{rest:List (Int×Int)}{a b:RS}(h:RS.A d rest a b):b.stop=a.stop:=by rw[h.eq]
theorem RS.A.aG{d:Int}{rest:List (Int×Int)}{a b:RS}(h:RS.A d rest a b):b.aG=a.aG:=by rw[h.eq]
section
variable{d:Int}{rest:List (Int×Int)}
variable(vars:List B)
end
end Rb

namespace Rb
open Go
section
variable{d:Int}{rest:List (Int×Int)}
theorem RS.D.step{a b c t2:RS}(h:RS.D d rest a b)(k1:Ks a c)(k2:Ks b t2):RS.D d rest c t2:=by rw[k1.st h.st];exact h.right k2.pr
variable(vars:List B)
variable(c:Nat)
end
end Rb

namespace Rb
open Go
structure b8 where
 what:Int
 n:Int
 k:Int
 j:Int
 x:aN
 kind:Int
 aV:Int
 site:Int
 X:Int
def Jc:aN:=⟨[],[]⟩
def jK(ln a n k:Int):b8:=⟨a,n,k,0,Jc,0,0,0,ln⟩
def kJ(o:Int)(L:List (List UInt8×Nat))(x:List UInt8):Int:=L.foldl (λo p=>if p.1=x then(p.2:Int)else o) o
def Tv(L:List (List UInt8×Nat))(ln kind n:Int)(E:List UInt8)(op aV:Int)(place:aN)(a:Int):b8:=
 if kind=1 then jK ln 2 n 0 else if kind=2 then jK ln 3 0 (kJ (-1) L E)else if kind=3 then jK ln 5 0 op
 else⟨7,0,0,0,place,kind,aV,a,ln⟩
section
variable(vars:List B)(L:List (List UInt8×Nat))(ln:Int)
mutual
def Bw:ax→Int→List b8
 | .mk kind n E op aV place bq,a=>jK ln 1 0 0::(xi place a++Bz bq (V (a+ke place))++[Tv L ln kind n E op aV place (V (V (V (a+ke place)+kE bq 0)+1))])
def Bz:List ax→Int→List b8
 |[],a=>[]
 |e::r,a=>Bw e a++Bz r (V (a+AQ e 0))
def xi:aN→Int→List b8
 | .mk var aB,a=>BA (.mk var aB) aB 0 a
def BA(x:aN):List K→Nat→Int→List b8
 |[],k,a=>[]
 | p::r,k,a=>match Tw p a with
  |none=>BA x r (k+1) a
  |some l=>l++(jK ln 6 (lJ (nZ vars ⟨x.var,x.aB.take k⟩)) 0::BA x r (k+1) (V (a+H4 p 0)))
def Tw:K→Int→Option (List b8)
 | .mk field bc,a=>Tx bc a
def Tx:List ax→Int→Option (List b8)
 |[],_=>none
 |e::_,a=>some (Bw e a)
end
end
mutual
def sb:ax→Nat
 | .mk kind n E op aV place bq=>1+na place+lQ bq
def lQ:List ax→Nat
 |[]=>0
 |e::r=>sb e+lQ r
def na:aN→Nat
 | .mk var aB=>nc aB
def nc:List K→Nat
 |[]=>0
 |p::r=>sd p+nc r
def sd:K→Nat
 | .mk field bc=>1+lQ bc
end
structure Jd where
 want:mg
 fin:Int
 pr:List Int
 empty:Bool
def Mx:Nat:=1000000000
def ml(vars:List B)(x:aN):Prop:=(bK vars x).1=0∧((bK vars x).2.kind=1∨(bK vars x).2.kind=2)
structure BB(vars:List B)(A:List b8)(dH:List (Int×Int))(P:Nat→List Int→List Int→Nat→Int→List Int→Prop)(R:Jd→Prop):Prop where
 XB:∀{pc:Nat}{st G:List Int}{u:Nat}{f:Int}{pr:List Int}{a:b8},A[pc]?=some a→a.what=1→f<1→R ⟨rV,0,[],true⟩→P pc st G u f pr
 XC:∀{pc:Nat}{st G:List Int}{u:Nat}{f:Int}{pr:List Int}{a:b8},A[pc]?=some a→a.what=1→¬f<1→P (pc+1) st G u (V (f-1)) pr→P pc st G u f pr
 push:∀{pc:Nat}{st G:List Int}{u:Nat}{f:Int}{pr:List Int}{a:b8},A[pc]?=some a→a.what=2→st.length≤Mx→P (pc+1) (st++[a.n]) G u f pr→P pc st G u f pr
 loc:∀{pc:Nat}{st G:List Int}{u:Nat}{f:Int}{pr:List Int}{a:b8}{k:Nat}{v:Int},A[pc]?=some a→a.what=3→a.k=(k:Int)→G[k]?=some v→st.length≤Mx→P (pc+1) (st++[v]) G u f pr→P pc st G u f pr
 aJ:∀{pc:Nat}{st G:List Int}{u:Nat}{f:Int}{pr:List Int}{a:b8}{k:Nat}{v:Int},A[pc]?=some a→a.what=4→a.k=(k:Int)→k<G.length→P (pc+1) st (G.set k v) u f pr→P pc (st++[v]) G u f pr
 bin:∀{pc:Nat}{st G:List Int}{u:Nat}{f:Int}{pr:List Int}{a:b8}{x:Int}{y:Int},A[pc]?=some a→a.what=5→1≤a.k→a.k≤11→P (pc+1) (st++[R5 a.k x y]) G u f pr→P pc (st++[x,y]) G u f pr
 XD:∀{pc:Nat}{st G:List Int}{u:Nat}{f:Int}{pr:List Int}{a:b8}{v:Int},A[pc]?=some a→a.what=6→v≥a.n→R ⟨rV,2,pr,false⟩→P pc (st++[v]) G u f pr
 XE:∀{pc:Nat}{st G:List Int}{u:Nat}{f:Int}{pr:List Int}{a:b8}{v:Int},A[pc]?=some a→a.what=6→¬v≥a.n→P (pc+1) (st++[v]) G u f pr→P pc (st++[v]) G u f pr
 jump:∀{pc:Nat}{st G:List Int}{u:Nat}{f:Int}{pr:List Int}{a:b8}{k:Nat},A[pc]?=some a→a.what=11→a.k=(k:Int)→k≤A.length→P k st G u f pr→P pc st G u f pr
 XG:∀{pc:Nat}{st G:List Int}{u:Nat}{f:Int}{pr:List Int}{a:b8}{k:Nat},A[pc]?=some a→a.what=12→a.k=(k:Int)→k≤A.length→P k st G u f pr→P pc (st++[0]) G u f pr
 XH:∀{pc:Nat}{st G:List Int}{u:Nat}{f:Int}{pr:List Int}{a:b8}{v:Int},A[pc]?=some a→a.what=12→v≠0→P (pc+1) st G u f pr→P pc (st++[v]) G u f pr
 print:∀{pc:Nat}{st G:List Int}{u:Nat}{f:Int}{pr:List Int}{a:b8}{v:Int},A[pc]?=some a→a.what=13→pr.length≤Mx→P (pc+1) st G u f (pr++[v])→P pc (st++[v]) G u f pr
 XI:∀{pc:Nat}{st G:List Int}{u:Nat}{f:Int}{pr:List Int}{a:b8},A[pc]?=some a→a.what=10→u=dH.length→R ⟨⟨4,a.site,a.X,db,a.aV,0,0,0⟩,0,pr,false⟩→P pc st G u f pr
 XJ:∀{pc:Nat}{st G:List Int}{u:Nat}{f:Int}{pr:List Int}{a:b8}{g:Int×Int},A[pc]?=some a→a.what=10→dH[u]?=some g→P (pc+1) st G (u+1) f pr→P pc st G u f pr
 XK:∀{pc:Nat}{st G:List Int}{u:Nat}{f:Int}{pr:List Int}{a:b8}{idx:List Int}{vs:List Int},A[pc]?=some a→a.what=7→4≤a.kind→a.kind≤8→ml vars a.x→(idx.length:Int)=gj a.x.aB 0→(vs.length:Int)=(iu a.kind).1→u=dH.length →
  R ⟨⟨if a.kind≥6 then 3 else 1,a.site,a.X,dI vars a.x idx,a.aV,if a.kind≥6 then a.kind else 0,vs.getD 0 0,vs.getD 1 0⟩,0,pr,false⟩→P pc (st++idx++vs) G u f pr
 XL:∀{pc:Nat}{st G:List Int}{u:Nat}{f:Int}{pr:List Int}{a:b8}{idx:List Int}{vs:List Int}{g:Int×Int},A[pc]?=some a→a.what=7→4≤a.kind→a.kind≤8→ml vars a.x→(idx.length:Int)=gj a.x.aB 0→(vs.length:Int)=(iu a.kind).1→dH[u]?=some g→st.length≤Mx →
  P (pc+1) (st++[if(dI vars a.x idx).bits=true then R3 g.1 (dI vars a.x idx).bit (dI vars a.x idx).aM else g.1]) G (u+1) f pr→P pc (st++idx++vs) G u f pr
 XM:∀{pc:Nat}{st G:List Int}{u:Nat}{f:Int}{pr:List Int}{a:b8}{idx:List Int}{vs:List Int},A[pc]?=some a→a.what=8→ml vars a.x→(idx.length:Int)=gj a.x.aB 0→vs.length=(if a.kind=6 then 2 else 1)→(dI vars a.x idx).bits=false→u=dH.length →
  R ⟨⟨2,a.site,a.X,dI vars a.x idx,a.aV,0,H8 (dI vars a.x idx) 0 (vs.getD 0 0),vs.getD 1 0⟩,0,pr,false⟩→P pc (st++idx++vs) G u f pr
 XN:∀{pc:Nat}{st G:List Int}{u:Nat}{f:Int}{pr:List Int}{a:b8}{idx:List Int}{vs:List Int}{g:Int×Int},A[pc]?=some a→a.what=8→ml vars a.x→(idx.length:Int)=gj a.x.aB 0→vs.length=(if a.kind=6 then 2 else 1)→(dI vars a.x idx).bits=false→dH[u]?=some g →
  P (pc+1) st G (u+1) f pr→P pc (st++idx++vs) G u f pr
 XO:∀{pc:Nat}{st G:List Int}{u:Nat}{f:Int}{pr:List Int}{a:b8}{idx:List Int}{vs:List Int},A[pc]?=some a→a.what=8→ml vars a.x→(idx.length:Int)=gj a.x.aB 0→vs.length=(if a.kind=6 then 2 else 1)→(dI vars a.x idx).bits=true→u=dH.length →
  R ⟨⟨1,a.site,a.X,dI vars a.x idx,a.aV,0,0,0⟩,0,pr,false⟩→P pc (st++idx++vs) G u f pr
 XP:∀{pc:Nat}{st G:List Int}{u:Nat}{f:Int}{pr:List Int}{a:b8}{idx:List Int}{vs:List Int}{g:Int×Int},A[pc]?=some a→a.what=8→ml vars a.x→(idx.length:Int)=gj a.x.aB 0→vs.length=(if a.kind=6 then 2 else 1)→(dI vars a.x idx).bits=true→dH[u]?=some g→u+1=dH.length →
  R ⟨⟨2,a.site,a.X,dI vars a.x idx,a.aV,0,H8 (dI vars a.x idx) g.1 (vs.getD 0 0),vs.getD 1 0⟩,0,pr,false⟩→P pc (st++idx++vs) G u f pr
 XQ:∀{pc:Nat}{st G:List Int}{u:Nat}{f:Int}{pr:List Int}{a:b8}{idx:List Int}{vs:List Int}{g:Int×Int}{g':Int×Int},A[pc]?=some a→a.what=8→ml vars a.x→(idx.length:Int)=gj a.x.aB 0→vs.length=(if a.kind=6 then 2 else 1)→(dI vars a.x idx).bits=true→dH[u]?=some g→dH[u+1]?=some g' →
  P (pc+1) st G (u+2) f pr→P pc (st++idx++vs) G u f pr
 wJ:∀{pc:Nat}{st G:List Int}{u:Nat}{f:Int}{pr:List Int}{a:b8}{idx:List Int},A[pc]?=some a→a.what=9→ml vars a.x→(idx.length:Int)=gj a.x.aB 0→u=dH.length →
  R ⟨⟨1,a.site,a.X,dI vars a.x idx,a.aV,0,0,0⟩,0,pr,false⟩→P pc (st++idx) G u f pr
 AG:∀{pc:Nat}{st G:List Int}{u:Nat}{f:Int}{pr:List Int}{a:b8}{idx:List Int}{g:Int×Int}{k j:Nat},A[pc]?=some a→a.what=9→ml vars a.x→(idx.length:Int)=gj a.x.aB 0→a.k=(k:Int)→a.j=(j:Int)→k<G.length→j<G.length→dH[u]?=some g →
  P (pc+1) st ((G.set k g.1).set j g.2) (u+1) f pr→P pc (st++idx) G u f pr
 fin:∀{pc:Nat}{st G:List Int}{u:Nat}{f:Int}{pr:List Int},pc=A.length→R ⟨rV,1,pr,false⟩→P pc st G u f pr
def mm(A:List b8)(pc:Nat)(l:List b8):Prop:=∀i x,l[i]?=some x→A[pc+i]?=some x
theorem mm.cons{A:List b8}{pc:Nat}{x:b8}{l:List b8}(h:mm A pc (x::l)):A[pc]?=some x∧mm A (pc+1) l:=⟨h 0 x rfl,λi y a=>by have:=h (i+1) y (by simpa using a);rw[show pc+1+i=pc+(i+1) by omega];exact this⟩
theorem mm.app{A:List b8}{pc:Nat}{l m:List b8}(h:mm A pc (l++m)):mm A pc l∧mm A (pc+l.length) m:=by
 refine⟨λi y a=>h i y ?_,λi y a=>?_⟩
 ·rw[Zy (XV.1 a).1];exact a
 · have:=h (l.length+i) y (by rw[Zz (by omega),Nat.add_sub_cancel_left];exact a);rw[Nat.add_assoc];exact this
structure St(dH:List (Int×Int))(s:RS)(u:Nat):Prop where
 go:s.stop=false
 em:s.empty=false
 wz:s.want=rV
 fz:s.fin=0
 an:s.dH=dH.drop u
 le:u≤dH.length
structure LR(L:List (List UInt8×Nat))(aG:List (List UInt8×Int))(G:List Int):Prop where
 nm:aG.map (·.1)=L.map (·.1)
 vl:∀(i:Nat)(p:List UInt8×Nat)(l:List UInt8×Int),L[i]?=some p→aG[i]?=some l→G[p.2]?=some l.2
 nd:(L.map (·.1)).Nodup
theorem Je{o:Int}{x:List UInt8}:∀{L:List (List UInt8×Nat)},x∉L.map (·.1)→kJ o L x=o
 |[],_=>rfl
 | p::r,h=>by simp only[Zj,aah,not_or]at h;unfold kJ;rw[Yv,ab (λe=>h.1 e.symm)];exact Je h.2
theorem Jf:∀{L:List (List UInt8×Nat)}{o:Int}{i:Nat}{p:List UInt8×Nat},(L.map (·.1)).Nodup→L[i]?=some p→kJ o L p.1=p.2
 | q::r,o,0,p,hn,h=>by simp at h;subst h;simp only[Zj,acD]at hn;unfold kJ;rw[Yv,aa rfl];exact Je hn.1
 | q::r,o,i+1,p,hn,h=>by simp only[Zj,acD]at hn;unfold kJ;rw[Yv];exact Jf (i:=i) hn.2 (by simpa using h)
theorem LR.get{L:List (List UInt8×Nat)}{s:RS}{G:List Int}(h:LR L s.aG G){x:List UInt8}(a:x∈L.map (·.1)):∃k i,kJ (-1) L x=(k:Nat)∧G[k]?=some (s.get x)∧L[i]?=some (x,k)∧s.aG.findIdx? (λl=>l.1==x)=some i:=by
 rw[←h.nm]at a;obtain⟨i,hi⟩:=Ta a;obtain⟨l,h1,c,d,_⟩:=I2 hi;have hn:(L.map (·.1))[i]?=some x:=by rw[←h.nm,YN,h1,←c];rfl
 rw[YN]at hn;cases hp:L[i]? with
 |none=>rw[hp]at hn;cases hn
 | some p=>
  rw[hp]at hn;have b:p.1=x:=by simpa using hn
  refine⟨p.2,i,?_,?_,?_,hi⟩
  ·rw[←b];exact Jf h.nd hp
  ·rw[d];exact h.vl i p l hp h1
  ·rw[←b];exact hp
end Rb

namespace Rb
open Go
theorem drop_cons{α:Type}{l:List α}{u:Nat}{g:α}(h:l[u]?=some g):l.drop u=g::l.drop (u+1):=by obtain⟨hu,he⟩:=XV.1 h;rw[List.drop_eq_getElem_cons hu,he]
theorem St.next{dH:List (Int×Int)}{s:RS}{u:Nat}(h:St dH s u):u=dH.length∨∃g,dH[u]?=some g:=by
 by_cases e:u=dH.length
 ·exact .inl e
 · right;have:=h.le;exact ⟨dH[u]'(by omega), YO _⟩
structure BC where
 vars:List B
 A:List b8
 dH:List (Int×Int)
 P:Nat→List Int→List Int→Nat→Int→List Int→Prop
 R:Jd→Prop
section
variable{E:BC}(S:BB E.vars E.A E.dH E.P E.R){L:List (List UInt8×Nat)}{G:List Int}{ln:Int}
include S
end
end Rb

namespace Rb
open Go
theorem xj(vars:List B)(L:List (List UInt8)):∀{l:List ax},hZ vars L l↔∀e∈l,vE vars L e
 |[]=>by simp[hZ]
 |e::r=>by simp[hZ,xj vars L (l:=r)]
theorem Jg(vars:List B)(L:List (List UInt8)):∀{l:List K},lP vars L l↔∀p∈l,∀e∈p.bc,vE vars L e
 |[]=>by simp[lP]
 |p::r=>by simp[lP,Tl,xj,Jg vars L (l:=r)]
theorem oj{e:ax}(h:hU e=true):1≤e.kind∧e.kind≤8∧(e.kind≤3→e.place.aB=[])∧(e.bq.length:Int)=(iu e.kind).1∧(e.kind=3→1≤e.op∧e.op≤11):=by
 unfold hU at h;simp only[X1,dU]at h;obtain⟨⟨⟨⟨⟨⟨h1,d⟩,_⟩,_⟩,b⟩,a⟩,f⟩:=h;refine⟨h1,d,λc=>?_,by simpa using f,λc=>by rw[aa c]at b;simpa using b⟩;have hk:(iu e.kind).2=false:=by
  unfold iu;by_cases e1:e.kind=3
  ·rw[aa e1]
  ·rw[ab e1,bw,bw,bw]
 rw[hk,aac]at a;unfold kD at a;simp only[X1,bG]at a;exact Zi.1 a.2
section
variable{E:BC}(S:BB E.vars E.A E.dH E.P E.R){L:List (List UInt8×Nat)}{G:List Int}{ln:Int}
include S
end
end Rb

namespace Rb
open Go
variable{G:List Int}{x:List UInt8}
mutual
def BE:ay→Nat
 | .mk kind X E cg aV place bf bg bx=>(if kind=1 then 1 else 0)+(se bg+se bx)
def se:List ay→Nat
 |[]=>0
 |x::r=>BE x+se r
end
mutual
def sf:ay→Nat
 | .mk kind X E cg aV place bf bg bx=>8+(na place+lQ bf)+(lS bg+lS bx)
def lS:List ay→Nat
 |[]=>0
 |x::r=>sf x+lS r
end
mutual
def Jh:ay→Int
 | .mk kind X E cg aV place bf bg bx=>qf bx (qf bg X)
def qf:List ay→Int→Int
 |[],l=>l
 |x::r,l=>qf r (Jh x)
end
def sg(vars:List B)(L:List (List UInt8×Nat))(ln:Int)(place:aN)(bf:List ax)(a:Int):List b8:=jK ln 1 0 0::(xi vars L ln place a++Bz vars L ln bf (V (a+ke place)))
def Ty(L:List (List UInt8×Nat))(n:Nat)(kind ln:Int)(E cg:List UInt8)(aV:Int)(place:aN)(a:Int):b8:=
 if kind=1 then jK ln 4 0 n else if kind=2 then jK ln 4 0 (kJ (-1) L E)
 else if kind=3∨kind=4∨kind=6 then⟨8,0,0,0,place,kind,aV,a,ln⟩
 else if kind=5 then⟨9,0,kJ (-1) L E,kJ (-1) L cg,place,0,aV,a,ln⟩
 else if kind=7 then⟨10,0,0,0,Jc,0,aV,a,ln⟩
 else jK ln 13 0 0
def Tz(ln l2:Int)(p:Nat)(T:List b8)(F:Nat→List b8):List b8:=jK ln 12 0 ((p+1+T.length+1:Nat):Int)::(T++(jK l2 11 0 ((p+1+T.length+1+(F (p+1+T.length+1)).length:Nat):Int)::F (p+1+T.length+1)))
def TA(ln l2:Int)(p a:Nat)(T:List b8):List b8:=jK ln 12 0 ((p+1+T.length+1:Nat):Int)::(T++[jK l2 11 0 (a:Int)])
def Ji(L:List (List UInt8×Nat))(n:Nat)(x:ay):List (List UInt8×Nat):=if x.kind=1 then L++[(x.E,n)]else L
section
variable(vars:List B)
mutual
def BF:ay→Nat→Nat→List (List UInt8×Nat)→Int→List b8
 | .mk kind X E cg aV place bf bg bx,base,n,L,a=>
  sg vars L X place bf a ++
  (if kind=8 then Tz X (qf bg X) (base+(sg vars L X place bf a).length) (si bg (base+(sg vars L X place bf a).length+1) n L (V (V (a+ke place)+kE bf 0)))
      (λb=>si bx b (n+se bg) L (V (V (V (a+ke place)+kE bf 0)+nY bg 0)))
    else if kind=9 then TA X (qf bg X) (base+(sg vars L X place bf a).length) (base+1+(xi vars L X place a).length) (si bg (base+(sg vars L X place bf a).length+1) n L (V (V (a+ke place)+kE bf 0)))
    else [Ty L n kind X E cg aV place (V (V (V (a+ke place)+kE bf 0)+1))])
def si:List ay→Nat→Nat→List (List UInt8×Nat)→Int→List b8
 |[],base,n,L,a=>[]
 |x::r,base,n,L,a=>BF x base n L a++si r (base+(BF x base n L a).length) (n+BE x) (Ji L n x) (V (a+AR x 0))
end
end
theorem Jj{x:ay}(h:jj x=true):1≤x.kind∧x.kind≤10∧(¬(3≤x.kind∧x.kind≤6)→x.place.aB=[])∧(x.bf.length:Int)=(eG x.kind).2.2.2.1∧(x.kind≠8→x.bx=[])∧(x.kind≠8→x.kind≠9→x.bg=[]):=by
 unfold jj at h;simp only[X1,dU,X2,bG]at h;obtain⟨⟨⟨⟨⟨⟨⟨h1,d⟩,_⟩,_⟩,a⟩,f⟩,b⟩,c⟩:=h;refine⟨h1,d,λe=>?_,f,λe=>?_,λe g=>?_⟩
 · have:(eG x.kind).2.2.1=false:=by
     unfold eG
     repeat' split
     all_goals first|rfl|(exfalso;omega)
   rw[this]at a;rcases a with a|a
   ·cases a
   · unfold kD at a;simp only[X1,bG]at a;exact Zi.1 a.2
 · have:(eG x.kind).2.2.2.2.2=false:=by
     unfold eG
     repeat' split
     all_goals first|rfl|(exfalso;omega)
   rw[this]at c;rcases c with c|c
   ·cases c
   ·exact Zi.1 c
 · have:(eG x.kind).2.2.2.2.1=false:=by
     unfold eG
     repeat' split
     all_goals first|rfl|(exfalso;omega)
   rw[this]at b;rcases b with b|b
   ·cases b
   ·exact Zi.1 b
theorem LR.take{L:List (List UInt8×Nat)}{aG:List (List UInt8×Int)}(h:LR L aG G)(n:Nat):LR (L.take n) (aG.take n) G:=by
 refine⟨by rw[acq,acq,h.nm],λi p l hp hl=>?_,?_⟩
 · rw [XX]at hp hl;by_cases hi:i<n
   · rw[aa hi]at hp hl;exact h.vl i p l hp hl
   ·rw[ab hi]at hp;cases hp
 · rw[acq];exact acE (List.take_sublist _ _) h.nd
theorem LR.app{L:List (List UInt8×Nat)}{aG:List (List UInt8×Int)}(h:LR L aG G){n:Nat}(hb:∀p∈L,p.2<n)(hn:n<G.length)(d:x∉L.map (·.1))(v:Int):LR (L++[(x,n)]) (aG++[(x,v)]) (G.set n v):=by
 have hlen:aG.length=L.length:=by have:=congrArg acF h.nm;simpa using this
 refine⟨by rw[acs,acs,h.nm];rfl,λi p l hp hl=>?_,?_⟩
 · by_cases hi:i<L.length
   · rw[Zy hi]at hp;rw[Zy (by omega)]at hl;have g:=hb p (aaH hp);rw[Ym,bw];exact h.vl i p l hp hl
   · have f:i=L.length:=by
       have:=(XV.1 hp).1;simp at this;omega
     subst f;rw[Zz (sl _),acA]at hp;rw[Zz (by omega),←hlen,acA]at hl;simp at hp hl;subst hp hl;rw[Ym,aa rfl,aa hn]
 · rw[acs,List.nodup_append];refine⟨h.nd,by simp,λa ha b c e=>?_⟩;simp at c;subst c;exact d (e▸ha)
theorem LR.put{L:List (List UInt8×Nat)}{s:RS}(h:LR L s.aG G)(hi:(L.map (·.2)).Nodup)(c:x∈L.map (·.1))(hb:∀p∈L,p.2<G.length)(v:Int):∃k:Nat,kJ (-1) L x=k∧k<G.length∧LR L (s.put x v).aG (G.set k v):=by
 obtain⟨k,i,h1,r,b,d⟩:=h.get c;have hk:k<G.length:=hb (x,k) (aaH b);obtain⟨l,g1,g2,g3,g4⟩:=I2 d;refine⟨k,h1,hk,?_⟩;rw[g4 v];show LR L (s.aG.set i (l.1,v)) (G.set k v);have hlen:s.aG.length=L.length:=by have:=congrArg acF h.nm;simpa using this
 refine⟨?_,λj p q hp a=>?_,h.nd⟩
 · rw [List.map_set,←h.nm];apply acz;intro j;rw[Ym];by_cases e:i=j
   · subst e;have:i<s.aG.length:=(XV.1 g1).1;rw[aa rfl,aa (by simpa using this),YN,g1];rfl
   ·rw[ab e]
 · rw [Ym]at a;by_cases e:i=j
   · subst e;rw[aa rfl]at a;split at a
     · cases a;rw[b]at hp;cases hp;rw[Ym,aa rfl,aa hk]
     ·cases a
   · rw [ab e]at a;have f:k≠p.2:=by
      intro g;have m:(L.map (·.2))[i]?=some k:=by rw[YN,b];rfl
      have n:(L.map (·.2))[j]?=some k:=by rw[YN,hp,g];rfl
      have i1:=(XV.1 m)
      have i2:=(XV.1 n)
      obtain⟨l1,e1⟩:=i1;obtain⟨l2,o⟩:=i2;exact e ((List.getElem_inj hi).1 (e1.trans o.symm))
     rw[Ym,ab f];exact h.vl j p q hp a
end Rb

namespace Rb
open Go
section
variable{C:Ctx}(aj:bN C)(hT:Cl (af C) S.bu){id:Nat}{vars:List B}{L:List (List UInt8)}
include aj hT
end
end Rb

namespace Rb
open Go
theorem TB{j n m:Nat}(h:n≤m):du 2 (.row j 0 m 2) none (some (J n)) none=some (.row j 0 n 2):=by simp only[du,eo];rw[cG];simp only[Y7];rw[aa ⟨Yt _,h,trivial⟩,aa (.inl trivial)];simp
theorem kg.take{H:Z}{id:Nat}{L:List (List UInt8×Int)}{x:I}(h:kg H id L x){n:Nat}(hn:n≤L.length):∃a,du 2 x none (some (J n)) none=some a∧kg H id (L.take n) a∧a.known=true∧a.cells=[a]∧a.scalar=true∧∀j c d e,a = .row j c d e→∃c' b f,x = .row j c' b f:=by
 rcases h with⟨rfl,rfl⟩|⟨j,cs,m,rfl,g,i,k,o,l⟩
 · have:n=0:=by simpa using hn
   subst this;exact⟨aS,rfl,.inl ⟨rfl,rfl⟩,rfl,rfl,rfl,λj c d e h=>by cases h⟩
 · have hl:(L.take n).length=n:=by rw[abX];omega
   refine⟨.row j 0 n 2,TB hn,.inr ⟨j,cs,m,by rw[hl],g,i,k,by omega,?_⟩,rfl,rfl,rfl,λq c d e h=>?_⟩
   ·rw[hl,←Bu (cells:=r9) (sz:=2) (λ_=>rfl),←l,acr,acp (by omega)]
   · simp only[I.row.injEq]at h;exact⟨0,L.length,2,by rw[h.1]⟩
section
variable{C:Ctx}(aj:bN C)(hT:Cl (af C) S.bu){id:Nat}{vars:List B}{c:Nat}
include aj hT
end
end Rb

namespace Rb
open Go
section
variable{C:Ctx}(aj:bN C)(hT:Cl (af C) S.bu){id:Nat}{vars:List B}{L:List (List UInt8)}{c:Nat}
include aj hT
end
end Rb

namespace Rb
open Go
theorem mm.le{A:List b8}{pc:Nat}{l:List b8}(h:mm A pc l)(hl:l≠[]):pc+l.length≤A.length:=by have hp:0<l.length:=List.length_pos_iff.2 hl;have:=h (l.length-1) l[l.length-1] (YO _);have:=(XV.1 this).1;omega
theorem St.put{dH:List (Int×Int)}{s:RS}{u:Nat}(h:St dH s u)(x:List UInt8)(v:Int):St dH (s.put x v) u:=by obtain⟨e1,f,a,b,g,c,d,e⟩:=SJ s x v;exact⟨by rw[a];exact h.go,by rw[e];exact h.em,by rw[d];exact h.wz,by rw[c];exact h.fz,by rw[b];exact h.an,h.le⟩
section
variable{E:BC}(S:BB E.vars E.A E.dH E.P E.R){c:Nat}
include S
end
end Rb

namespace Rb
open Go
section
variable{C:Ctx}(aj:bN C)(hT:Cl (af C) S.bu)
include aj hT
end
end Rb

namespace Rb
open Go
variable{H H':Z}{n sz k:Nat}{x:I}{cells:List I}
def bS:I→Option Nat
 | .row j _ _ _=>some j
 |_=>none
def cK(H:Z)(sz:Nat)(x:I)(n:Nat)(cells:List I):Prop:=cells.length=n*sz∧((∃tk,(tk = .nil∨tk = .full)∧n=0∧x = .ak tk 0 [])∨∃j cs m,x = .row j 0 n sz∧At H j (.row cs)∧cs.length=m*sz∧n≤m∧cs.take (n*sz)=cells)
theorem cK.nil(H:Z)(sz:Nat):cK H sz aS 0 []:=⟨by simp,.inl ⟨.nil,.inl rfl,rfl,rfl⟩⟩
theorem cK.full(H:Z)(sz:Nat):cK H sz (.ak .full 0 []) 0 []:=⟨by simp,.inl ⟨.full,.inr rfl,rfl,rfl⟩⟩
theorem cK.aJ(h:cK H sz x n cells)(k:∀j cs,bS x=some j→At H j (.row cs)→At H' j (.row cs)):cK H' sz x n cells:=by
 refine⟨h.1,?_⟩;rcases h.2 with h|⟨j,cs,m,rfl,a,b⟩
 ·exact .inl h
 ·exact .inr ⟨j,cs,m,rfl,k j cs rfl a,b⟩
theorem cK.ext(h:cK H sz x n cells)(k:Z.Ext H H'):cK H' sz x n cells:=h.aJ λj cs _ h=>h.ext k
theorem cK.set{sz n i:Nat}(h:cK H sz x n cells)(hi:bS x≠some i)(o:bM):cK (H.set i o) sz x n cells:=h.aJ λj cs a h=>h.bZ (λe=>hi (by rw[←e];exact a)) o
theorem cK.lt{sz n j:Nat}(h:cK H sz x n cells)(a:bS x=some j):j<H.n:=by
 rcases h.2 with⟨tk,_,_,rfl⟩|⟨c,cs,m,rfl,b,d⟩
 ·cases a
 ·cases a;exact b.1
theorem cK.len(h:cK H sz x n cells):bp false x=some (J n):=by
 rcases h.2 with⟨tk,_,rfl,rfl⟩|⟨a,cs,m,rfl,b,c⟩
 ·rfl
 ·rfl
theorem cK.known(h:cK H sz x n cells):x.known=true∧x.cells=[x]∧x.scalar=true:=by
 rcases h.2 with⟨tk,_,rfl,rfl⟩|⟨a,cs,m,rfl,b,c⟩
 ·exact⟨rfl,rfl,rfl⟩
 ·exact⟨rfl,rfl,rfl⟩
theorem cK.addr(h:cK H sz x n cells)(e:k<n):∃j cs,bS x=some j∧At H j (.row cs)∧aP none sz x (J k)=some (.ptr j (k*sz))∧cs.take (n*sz)=cells∧n*sz≤cs.length:=by
 rcases h.2 with⟨tk,_,rfl,rfl⟩|⟨j,cs,m,rfl,a,b,c,d⟩
 ·omega
 · refine⟨j,cs,rfl,a,?_,d,by rw[b];exact Za _ c⟩;show(if 0≤(k:Int)∧(k:Int)<(n:Nat)then some (I.ptr j (0+(k:Int).toNat*sz))else none)=_;rw[aa ⟨by omega,by omega⟩,Y7,YI]
theorem cK.get(h:cK H 1 x n cells){v:I}(hv:cells[k]?=some v):∃p,aP none 1 x (J k)=some p∧∀H',Z.Ext H H'→O H' 1 false p=some v:=by
 have hk:k<n:=by have:=(XV.1 hv).1;rw[h.1]at this;omega
 obtain⟨j,cs,h1,a,b,c,d⟩:=h.addr hk;refine⟨_,b,λH' E=>?_⟩;rw[(a.ext E).load];unfold bU;rw[←c,XX,cG]at hv;rw[cG,eM,acm];exact hv
theorem cK.cut(h:cK H sz x n cells)(hk:k≤n):∃a,du sz x none (some (J k)) none=some a∧cK H sz a k (cells.take (k*sz))∧bS a=bS x:=by
 rcases h.2 with⟨tk,ht,rfl,rfl⟩|⟨j,cs,m,rfl,b,c,e,d⟩
 · have:k=0:=by omega
   subst this;refine⟨.ak tk 0 [],by simp[du,eo],⟨by simp,.inl ⟨tk,ht,rfl,rfl⟩⟩,rfl⟩
 · refine ⟨.row j 0 k sz,?_,⟨?_,.inr ⟨j,cs,m,rfl,b,c,by omega,?_⟩⟩,rfl⟩
   · simp only[du,eo];rw[cG];simp only[Y7,aco];rw[aa ⟨Yt _,hk,trivial⟩,qH];simp
   · rw[abX,h.1];exact acp (Za _ hk)
   ·rw[←d,acr,acp (Za _ hk)]
theorem cK.iw{l:List Int}(h:cK H 1 x n (l.map (bY))){a b:Nat}(c:a≤b)(hb:b≤n):∃y,du 1 x (some (J a)) (some (J b)) none=some y∧Td H y ((l.take b).drop a):=by
 rcases h.2 with⟨tk,ht,rfl,rfl⟩|⟨j,cs,m,rfl,e,g,i,f⟩
 · have:a=0:=by omega
   have:b=0:=by omega
   subst_vars
   refine⟨.ak tk 0 [],by simp[du,eo],λH' _ k v hv=>by simp at hv⟩
 · by_cases hc:a=0∨a<b
   · refine ⟨.row j (0+a*1) (b-a) 1,?_,λH' E k v hv=>?_⟩
     · simp only[du,eo];rw[cG,cG];simp only[Y7,aco];rw[aa ⟨c,hb,trivial⟩,aa hc]
     · rw [XY,XX]at hv;split at hv
       · rename_i o;refine⟨.ptr j (0+a*1+k*1),?_,?_⟩
         · show(if 0≤(k:Int)∧(k:Int)<((b-a:Nat):Int)then some (I.ptr j (0+a*1+(k:Int).toNat*1))else none)=_;rw[aa ⟨by omega,by omega⟩,Y7]
         · rw[(e.ext E).load];unfold bU;have d:(l.map (bY))[a+k]?=some (bY v):=by rw[YN,hv];rfl
           rw[←f,XX,cG]at d;rw[cG,eM];rw[show 0+a*1+k*1=a+k by omega];exact d
       ·cases hv
   · refine ⟨.ak .dead 0 [],?_,λH' E k v hv=>?_⟩
     · simp only[du,eo];rw[cG,cG];simp only[Y7,aco];rw[aa ⟨c,hb,trivial⟩,ab hc]
     · have:=(XV.1 hv).1;rw[abM,abX]at this;omega
theorem BG:∀(news:List I)(o:Nat)(cs:List I),(setCells cs o news).length=cs.length
 |[],o,cs=>rfl
 |v::r,o,cs=>by rw[setCells,BG r,aag]
theorem cK.app{n sz a:Nat}{cells news:List I}(h:cK H sz x n cells)(hz:0<sz)(hn:news.length=sz)(c:news.all I.scalar=true)(hb:(n+1)*a≤140737488355328)(hl:n+1≤9223372036854775807){K:ad}
  (d:∀b H',cK H' sz b (n+1) (cells++news)→H.n≤H'.n→(∀i o,bS x≠some i→At H i o→At H' i o)→(bS b=bS x∨bS b=some H.n)→K b H'):ar (cr H true sz a x (.ak .full 1 news)) K:=by
 have f:fi H sz (.ak .full 1 news)=some (1,news):=by simp[fi,hn]
 have hlen:(cells++news).length=(n+1)*sz:=by rw[abC,h.1,hn,Yu,abA]
 rcases h.2 with⟨tk,ht,rfl,rfl⟩|⟨j,cs,m,rfl,g,k,u,p⟩
 · have hc:cells=[]:=Zi.1 (by rw[h.1];simp);subst hc;have e:cr H true sz a (.ak tk 0 []) (.ak .full 1 news)=some (.row H.n 0 (0+1) sz,H.push (.row ([]++news))):=by
    simp only[cr,f,c,not_true_eq_false,bR];rw[eM,ab (by simp only[abz];exact⟨by simp,hb,hl⟩)];rcases ht with rfl|rfl<;>rfl
   exact⟨_,_,e,d _ _ ⟨hlen,.inr ⟨H.n,[]++news,1,rfl,At.new H _,by simp[hn],sl _,by rw[abG (by rw[hlen];exact sl _)]⟩⟩ (YB _) (λi o _ h=>h.push _) (.inr rfl)⟩
 · by_cases hc:(n+1)*sz≤cs.length
   · have e:cr H true sz a (.row j 0 n sz) (.ak .full 1 news)=some (.row j 0 (n+1) sz,H.set j (.row (setCells cs (n*sz) news))):=by
       simp only[cr,f,c,not_true_eq_false,bR,g.2];rw[eM,ab (by simp only[abz];exact⟨trivial,trivial,hb,hl⟩),aa hc]
     refine⟨_,_,e,d _ _ ⟨hlen,.inr ⟨j,_,m,rfl,g.set _,?_,?_,?_⟩⟩ (sl _) (λi o hi h=>h.bZ (λe=>hi (by rw[e];rfl)) _) (.inl rfl)⟩
     ·rw[BG];exact k
     · rw[k]at hc;exact Nat.le_of_mul_le_mul_right hc hz
     · apply acz;intro q;rw[XX];have s:cells.length=n*sz:=h.1;have v:(n+1)*sz=n*sz+sz:=by rw[Yu,abA]
       by_cases r:q<(n+1)*sz
       · rw[aa r,CT news cs _ _ (by rw[hn];omega)];by_cases h1:n*sz≤q∧q<n*sz+news.length
         ·rw[aa h1,Zz (by omega),s]
         ·rw[ab h1,Zy (by omega),←p,XX,cG]
       ·rw[ab r,aab (by rw[hlen];omega)]
   · have t:cs.length=n*sz:=by
       rw[k]at hc ⊢;have:¬n+1≤m:=λz=>hc (Za _ z);rw[show m=n by omega]
     have e:cr H true sz a (.row j 0 n sz) (.ak .full 1 news)=some (.row H.n 0 (n+1) sz,(H.set j .gone).push (.row (cs++news))):=by simp only[cr,f,c,not_true_eq_false,bR,g.2];rw[eM,ab (by simp only[abz];exact⟨trivial,trivial,hb,hl⟩),ab hc,aa t]
     have l:cs=cells:=by rw[←p,abG (by omega)]
     refine⟨_,_,e,d _ _ ⟨hlen,.inr ⟨H.n,cs++news,n+1,rfl,At.new (H.set j .gone) _,by rw[l];exact hlen,sl _,?_⟩⟩ (YB _) (λi o hi h=>(h.bZ (λe=>hi (by rw[e];rfl)) _).push _) (.inr rfl)⟩;rw[abG (by rw[l,hlen];exact sl _),l]
end Rb

namespace Rb
open Go
variable{k:Nat}{x y:Int×Int}{a b:Int}
theorem kh:∀l:List (Int×Int),(l.flatMap av).length=l.length*2
 |[]=>rfl
 |x::r=>by rw[abe,abC,kh r,abD];show 2+_=_;omega
theorem Jk:∀(l:List (Int×Int)) (k:Nat) (tl:List I) (p:Int×Int),l[k]?=some p→((l.flatMap av++tl).drop (k*2)).take 2=av p
 |[],k,tl,p,h=>by simp at h
 |x::r,0,tl,p,h=>by simp at h;subst h;rfl
 | x::r,k+1,tl,p,h=>by have:=Jk r k tl p (by simpa using h);rw[show(k+1)*2=k*2+2 by omega];exact this
theorem Jl:∀(l:List (Int×Int)) (k:Nat) (tl:List I) (p:Int×Int),k<l.length→setCells (l.flatMap av++tl) (k*2) (av p)=(l.set k p).flatMap av++tl
 |[],k,tl,p,h=>absurd h (Nat.not_lt_zero _)
 |x::r,0,tl,p,h=>rfl
 | x::r,k+1,tl,p,h=>by have:=Jl r k tl p (by simpa using h);rw[show(k+1)*2=k*2+2 by omega];show(I.int .i64 x.1 :: .int .i64 x.2::setCells (r.flatMap av++tl) (k*2) (av p))=_;rw[this];rfl
theorem BH(a b:Int×Int)(c:Bool):ja c [.n,.n] (.agg (av a)) (.agg (av b))=some (.bool (if c then !(decide (a=b))else decide (a=b))):=by
 have:((a.1==b.1)&&(b.2==b.2))=((a.1==b.1)&&(b.2==b.2)):=rfl;have h:((a.1==b.1)&&(a.2==b.2))=decide (a=b):=by rw[aaf];simp only[X1,bG,dU];exact⟨λh=>Prod.ext h.1 h.2,λh=>by rw[h];exact⟨rfl,rfl⟩⟩
 rw[←h];cases c<;>simp[ja,dA,av]
section
variable{H:Z}{id:Nat}{l:List (Int×Int)}{tl:List I}
theorem sj{o n k:Nat}(h:k<n):aP none 2 (.row id o n 2) (.int .i64 k)=some (.ptr id (o+k*2)):=by show(if 0≤(k:Int)∧(k:Int)<(n:Nat)then some (I.ptr id (o+(k:Int).toNat*2))else none)=_;rw[aa ⟨by omega,by omega⟩,Y7]
theorem sk(h:At H id (.row (l.flatMap av++tl))){p:Int×Int}(hp:l[k]?=some p):O H 2 true (.ptr id (k*2))=some (.agg (av p)):=by have:=(XV.1 hp).1;rw[h.load];unfold bU;rw[aa (by rw[abC,kh];omega),aa rfl,Jk l k tl p hp]
theorem TC(h:At H id (.row (l.flatMap av++tl)))(a:k<l.length)(p:Int×Int):Y H 2 (.ptr id (k*2)) (.agg (av p))=some (H.set id (.row ((l.set k p).flatMap av++tl))):=by rw[h.store,aa ⟨rfl,rfl,rfl,by rw[abC,kh];omega⟩];show some (H.set id (.row (setCells _ (k*2) (av p))))=_;rw[Jl l k tl p a]
end
theorem BI(x:Int×Int):∀r:List (Int×Int),∃t,cy (x::r)=x::t
 |[]=>⟨[],by rw[cy]⟩
 | y::r=>by
  rw[cy];by_cases h:x=y
  ·rw[aa h,h];exact BI y r
  ·rw[ab h];exact⟨_,rfl⟩
theorem TD{r:List (Int×Int)}(h:x=y):(cy (x::y::r)).tail=(cy (y::r)).tail:=by rw[cy,aa h]
theorem TE{r:List (Int×Int)}(h:¬x=y):(cy (x::y::r)).tail=y::(cy (y::r)).tail:=by rw[cy,ab h,List.tail_cons];obtain⟨t,e⟩:=BI y r;rw[e];rfl
theorem Jm{l:List (Int×Int)}{j:Nat}{a b:Int×Int}(ha:l[j]?=some a)(hb:l[j+1]?=some b):l.drop j=a::b::l.drop (j+2):=by rw[drop_cons ha,drop_cons hb]
section
variable{C:Ctx}(aj:bN C)(hT:Cl (af C) S.bu){H:Z}{Q:ad}
include aj hT
theorem Jn(hQ:∀c:Int,(a<b→c = -1)→(b<a→c=1)→(a=b→c=0)→Q (.int .i64 c) H):af C 92 [.int .i64 a,.int .i64 b] H Q:=by
 have nan:∀(n:Int)(R:ad),R (.bool false) H→af C 136 [.int .i64 n] H R:=λn R f=>S.P1 hT (by unfold S.f136;simp only[d_,T];rw[show(n != n)=false by simp];exact f)
 refine S.Pz hT ?_;unfold S.f92;refine nan _ _ (nan _ _ ?_);simp only[aD,ZP,bR,bD,ej,T];apply aI<;>intro e
 · have:a<b:=by simpa using e
   exact hQ _ (λ_=>rfl) (λ_=>by omega) (λ_=>by omega)
 · have e:¬a<b:=by simpa using e
   apply aI<;>intro d
   · have:a>b:=by simpa using d
     exact hQ _ (λ_=>by omega) (λ_=>rfl) (λ_=>by omega)
   · have:¬a>b:=by simpa using d
     exact hQ _ (λ_=>by omega) (λ_=>by omega) (λ_=>rfl)
theorem TF(hQ:Q (.int .i64 (if a≠0 then a else b)) H):af C 91 [.ak .full 2 [.int .i64 a,.int .i64 b]] H Q:=by
 refine S.Py hT ?_;unfold S.f91;have e0:aP none 1 (.ak .full 2 [.int .i64 a,.int .i64 b]) (.int .i64 0)=some (.ae [.int .i64 a,.int .i64 b]):=rfl;have e1:aP none 1 (.ak .full 2 [.int .i64 a,.int .i64 b]) (.int .i64 1)=some (.ae [.int .i64 b]):=rfl;have l0:O H 1 false (.ae [.int .i64 a,.int .i64 b])=some (.int .i64 a):=rfl;have l1:O H 1 false (.ae [.int .i64 b])=some (.int .i64 b):=rfl;simp only[show bp false (.ak .full 2 [.int .i64 a,.int .i64 b])=some (.int .i64 2)from rfl,T];refine aC.step ?_;simp only[S.u7,aF,bD,T,aD];rw[kG,e0];simp only[T,l0,d_,aD];by_cases ha:a=0
 · rw[ab (by simp[ha])];rw[ab (by simpa using ha)]at hQ;simp only[b4,T];rw[show Y6 .i64 ((0:Int)+1)=1 from rfl];refine aC.step ?_;simp only[S.u7,aF,bD,T,aD];rw[kG,e1];simp only[T,l1,d_,aD];refine aI (λ_=>hQ) (λe=>?_);have hb:b=0:=by simpa using e
   simp only[b4,T];rw[show Y6 .i64 ((1:Int)+1)=2 from rfl];refine aC.step ?_;simp only[S.u7,aF,bD,T,aD];rw[eM];rw[hb]at hQ;exact hQ
 · rw[aa (by simp[ha])];rw[aa ha]at hQ;exact hQ
theorem TG(hQ:Q (.int .i64 (if x.1<y.1 then -1 else if x.1>y.1 then 1 else if x.2<y.2 then -1 else if x.2>y.2 then 1 else 0)) H):af C 90 [.agg (av x),.agg (av y)] H Q:=by
 refine S.Px hT ?_;unfold S.f90;have a:∀(p:Int×Int)(H:Z),aO H false 2 (.agg (av p))=some (.ae (av p),H):=λ_ _=>rfl;have f0:∀p:Int×Int,W 0 (.ae (av p))=some (.ae (av p)):=λ_=>rfl;have f1:∀p:Int×Int,W 1 (.ae (av p))=some (.ae [.int .i64 p.2]):=λ_=>rfl;have l0:∀(p:Int×Int)(H:Z),O H 1 false (.ae (av p))=some (.int .i64 p.1):=λ_ _=>rfl;have l1:∀(p:Int×Int)(H:Z),O H 1 false (.ae [.int .i64 p.2])=some (.int .i64 p.2):=λ_ _=>rfl;simp only[a,aR,f0,f1,l0,l1,T];refine Jn aj hT λc c1 c2 c3=>?_;refine⟨trivial,trivial,?_⟩;refine Jn aj hT λd d1 d2 d3=>?_;rw[show dk H false 1 2 [.int .i64 0] [(0,1,.int .i64 c),(1,1,.int .i64 d)]=some (.ak .full 2 [.int .i64 c,.int .i64 d],H)from rfl];simp only[aR];refine TF aj hT ?_;have:(if c≠0 then c else d)=(if x.1<y.1 then -1 else if x.1>y.1 then 1 else if x.2<y.2 then -1 else if x.2>y.2 then 1 else 0):=by
  rcases acG x.1 y.1 with h|h|h
  ·rw[c1 h,kG,aa h]
  · rw[c3 h,eM,bw,bw];rcases acG x.2 y.2 with k|k|k
    ·rw[d1 k,aa k]
    ·rw[d3 k,bw,bw]
    ·rw[d2 k,bw,aa k]
  ·rw[c2 h,kG,bw,aa h]
 rw[this];exact hQ
end
end Rb

namespace Rb
open Go
def jo(id:Nat)(H H':Z):Prop:=H'.n=H.n∧∀i o,i≠id→At H i o→At H' i o
theorem jo.refl(id:Nat)(H:Z):jo id H H:=⟨rfl,λ_ _ _ h=>h⟩
theorem jo.trans{id:Nat}{a b c:Z}(h:jo id a b)(k:jo id b c):jo id a c:=⟨k.1.trans h.1,λi o hi d=>k.2 i o hi (h.2 i o hi d)⟩
theorem jo.set(id:Nat)(H:Z)(o:bM):jo id H (H.set id o):=⟨rfl,λi x hi a=>a.bZ hi o⟩
theorem Jo:∀(b a c:List I)(o:Nat)(d:List I),a.length=o→d.length=b.length→setCells (a++(d++c)) o b=a++(b++c)
 | [],a,c,o,d,ha,f=>by have:d=[]:=acH f;rw[this];rfl
 | v :: b,a,c,o,d,ha,f=>by
  cases d with
  |nil=>simp at f
  | cons w d=>
   rw[setCells];have e:(a++(w::d++c)).set o v=(a++[v])++(d++c):=by rw[List.set_append_right _ _ (by omega),ha,acA];simp
   rw[e,Jo b (a++[v]) c (o+1) d (by simp[ha]) (by simpa using f)];simp
theorem Jq:∀n:Nat,(XS n [I.int .i64 0,I.int .i64 0]).flatten=(XS n ((0,0):Int×Int)).flatMap av
 |0=>rfl
 |n+1=>by rw[Y0,List.flatten_cons,Jq n,Y0,abe];rfl
section
variable{C:Ctx}(aj:bN C)(hT:Cl (af C) S.bu)
include aj hT
theorem TI{H:Z}{Q:ad}{id:Nat}{l:List (Int×Int)}{tl:List I}(hn:l.length≤1000000000)(h:At H id (.row (l.flatMap av++tl)))
  (hQ:∀(a:List (Int×Int)) H',jo id H H'→a.length=l.length→a.take (cy l).length=cy l→(cy l).length≤l.length→At H' id (.row (a.flatMap av++tl))→Q (.row id 0 (cy l).length 2) H') :
  af C 93 [.row id 0 l.length 2] H Q:=by
 refine S.Hk hT ?_;unfold S.f93;have hlen:∀(H:Z)(o n:Nat),bp false (.row id o n 2)=some (.int .i64 n):=λ_ _ _=>rfl;have whole:cy l=l→Q (.row id 0 l.length 2) H:=λe=>by have:=hQ l H (jo.refl _ _) rfl (by rw[e];exact abu) (by rw[e];exact sl _) h;rw[e]at this;exact this
 simp only[hlen H,T,bD,aD];refine aI (λe=>whole ?_) (λe=>?_)
 · have:l.length<2:=by have:(l.length:Int)<2:=(by simpa using e);omega
   match l,this with
   |[],_=>rw[cy]
   |[x],_=>rw[cy]
 have M:2≤l.length:=by have:¬(l.length:Int)<2:=(by simpa using e);omega
 have inner:∀(c:Nat),1≤c→c<l.length→∀(m k2 k:Nat)(a:List (Int×Int)) (H1:Z),l.length-c-k2=m→1≤k2→c+k2≤l.length→c≤k→k≤c+k2-1→jo id H H1→a.length=l.length→(∀i,c+k2-1≤i→a[i]?=l[i]?)→cy l=a.take k++(cy (l.drop (c+k2-1))).tail→At H1 id (.row (a.flatMap av++tl)) →
   aC (S.u_ (af C) (.row id 0 l.length 2) (.row id (c*2) (l.length-c) 2) Q) ([.int .i64 k,.int .i64 k2],H1):=by
  intro c N O m;induction m with
  | zero=>
   intro k2 k a H1 hm h1 hle hk E u q r hc p;refine aC.step ?_;simp only[S.u_,aF,c4,hlen H,T,bD,aD,aT];rw[ee];have f:(cy (l.drop (c+k2-1))).tail=[]:=by
    have v:c+k2-1<l.length:=by omega
    rw[drop_cons (YO v),acI (by omega),cy];rfl
   rw[f,abK]at hc;have z:(cy l).length=k:=by rw[hc,abX];omega
   unfold S.FN;simp only[aF];have s1:du 2 (.row id 0 l.length 2) (some (.int .i64 k)) none none=some (.row id (k*2) (l.length-k) 2):=by simp only[du,eo,aa (show(0:Int)≤(k:Int) by omega),Y7];rw[aa ⟨by omega,sl _,trivial⟩,aa (.inr (by omega)),YI]
   have s2:du 2 (.row id 0 l.length 2) none (some (.int .i64 k)) none=some (.row id 0 k 2):=by simp only[du,eo,aa (show(0:Int)≤(k:Int) by omega),Y7];rw[aa ⟨Yt _,by omega,trivial⟩,aa (.inl trivial),abo,aaQ]
   rw[s1,s2];simp only[T];have F:a.flatMap av++tl=(a.take k).flatMap av++((a.drop k).flatMap av++tl):=by rw[←acC,←acB,acJ]
   have G:eh H1 (.clear 2 [.int .i64 0,.int .i64 0]) [.row id (k*2) (l.length-k) 2]=some (.aq [],H1.set id (.row ((a.take k++XS (l.length-k) (0,0)).flatMap av++tl))):=by simp only[eh];rw[bw,p.2];dsimp only;rw[aa ⟨rfl,rfl,by rw[abC,kh,q];omega⟩,Jq,F,Jo _ _ tl _ ((a.drop k).flatMap av) (by rw[kh,abX];omega) (by rw[kh,kh,abM,acK,q]),←acC,←acB]
   rw[G];simp only[aR];have:=hQ (a.take k++XS (l.length-k) (0,0)) _ (u.trans (jo.set id H1 _)) (by rw[abC,abX,acK];omega) (by rw[z,abF (by rw[abX];omega),acr,Nat.min_self];exact hc.symm) (by omega) (p.set _);rw[z]at this;exact this
  | succ m w=>
   intro k2 k a H1 hm h1 hle hk E u q r hc p;have J:c+k2<l.length:=by omega
   obtain⟨b,hb⟩:∃b,l[c+k2-1]?=some b:=⟨_,YO (by omega)⟩
   obtain⟨d,f⟩:∃d,l[c+k2]?=some d:=⟨_,YO J⟩
   have K:a[c+k2-1]?=some b:=(r _ (sl _)).trans hb;have A:a[c+k2]?=some d:=(r _ (by omega)).trans f;have e1:aP none 2 (.row id (c*2) (l.length-c) 2) (.int .i64 k2)=some (.ptr id ((c+k2)*2)):=by rw[sj (by omega)];congr 2;omega
   have y:aP none 2 (.row id (c*2) (l.length-c) 2) (.int .i64 ((k2:Int)-1))=some (.ptr id ((c+k2-1)*2)):=by rw[show((k2:Int)-1)=((k2-1:Nat):Int) by omega,sj (by omega)];congr 2;omega
   have L:aP none 2 (.row id 0 l.length 2) (.int .i64 k)=some (.ptr id (k*2)):=by rw[sj (by omega),YI]
   have s:l.drop (c+k2-1)=b::d::l.drop (c+k2+1):=by have:=Jm (l:=l) (j:=c+k2-1) hb (by rw[show c+k2-1+1=c+k2 by omega];exact f);rw[this];congr 3;omega
   have B:l.drop (c+(k2+1)-1)=d::l.drop (c+k2+1):=by rw[show c+(k2+1)-1=c+k2 by omega];exact drop_cons f
   refine aC.step ?_;simp only[S.u_,aF,c4,hlen H,T,bD,aD,aT];rw[dW,e1];simp only[T,sk p A,fO];rw[wrap_i64 (n:=(k2:Int)-1) (by omega) (by omega),y];simp only[T,sk p K,BH,aD,a_];by_cases g:d=b
   · rw[ab (by simp[g])];unfold S.u9;simp only[aF,c4,b4,T];rw[wrap_i64 (n:=(k2:Int)+1) (by omega) (by omega),show((k2:Int)+1)=((k2+1:Nat):Int) by simp];refine w (k2+1) k a H1 (by omega) (by omega) (by omega) hk (by omega) u q (λi hi=>r i (by omega)) ?_ p;rw[hc,s,B,TD g.symm]
   · rw [aa (by simp[g])];simp only[T,sk p A,L,TC p (show k<a.length by omega),b4];rw[wrap_i64 (n:=(k:Int)+1) (by omega) (by omega),iS k];unfold S.u9;simp only[aF,c4,b4,T];rw[wrap_i64 (n:=(k2:Int)+1) (by omega) (by omega),show((k2:Int)+1)=((k2+1:Nat):Int) by simp];refine w (k2+1) (k+1) (a.set k d) _ (by omega) (by omega) (by omega) (by omega) (by omega) (u.trans (jo.set id H1 _)) (by rw[aag];exact q) (λi hi=>?_) ?_ (p.set _)
     ·rw[List.getElem?_set_ne (by omega)];exact r i (by omega)
     · rw [hc,s,B,TE (λe=>g e.symm)];have:(a.set k d).take (k+1)=a.take k++[d]:=by
        rw[abL,acn (sl k),YQ (by omega)];rfl
       rw[this,acC];rfl
 have outer:∀(m k:Nat),l.length-k=m→1≤k→k≤l.length→cy l=l.take (k-1)++cy (l.drop (k-1))→aC (S.va (af C) (.row id 0 l.length 2) Q) ([.int .i64 k],H):=by
  intro m;induction m with
  | zero=>
   intro k hm h1 hk hc;refine aC.step ?_;simp only[S.va,aF,hlen H,T,bD,aD];rw[ee];refine whole ?_;have v:k-1<l.length:=by omega
   rw[drop_cons (YO v),acI (by omega),cy]at hc;rw[hc];have:=acJ (k-1) l;rw[drop_cons (YO v),acI (by omega)]at this;exact this
  | succ m w=>
   intro k hm h1 hk hc;obtain⟨b,hb⟩:∃b,l[k-1]?=some b:=⟨_,YO (by omega)⟩
   obtain⟨d,f⟩:∃d,l[k]?=some d:=⟨_,YO (by omega)⟩
   have e1:aP none 2 (.row id 0 l.length 2) (.int .i64 k)=some (.ptr id (k*2)):=by rw[sj (by omega),YI]
   have y:aP none 2 (.row id 0 l.length 2) (.int .i64 ((k:Int)-1))=some (.ptr id ((k-1)*2)):=by rw[show((k:Int)-1)=((k-1:Nat):Int) by omega,sj (by omega),YI]
   have s:l.drop (k-1)=b::d::l.drop (k+1):=by have:=Jm (l:=l) (j:=k-1) hb (by rw[show k-1+1=k by omega];exact f);rw[this];congr 3;omega
   have D:l.take k=l.take (k-1)++[b]:=by
    obtain⟨j,rfl⟩:∃j,k=j+1:=⟨k-1,by omega⟩
    rw[abL];show l.take j++(l[j]?).toList=_;rw[show l[j]?=some b from hb];rfl
   refine aC.step ?_;simp only[S.va,aF,hlen H,T,bD,aD];rw[dW,e1];simp only[T,sk h f,fO];rw[wrap_i64 (n:=(k:Int)-1) (by omega) (by omega),y];simp only[T,sk h hb,BH,aD,ZP,bR];by_cases g:d=b
   · rw [aa (by simp[g])];have s1:du 2 (.row id 0 l.length 2) (some (.int .i64 k)) none none=some (.row id (k*2) (l.length-k) 2):=by
      simp only[du,eo,aa (show(0:Int)≤(k:Int) by omega),Y7];rw[aa ⟨by omega,sl _,trivial⟩,aa (.inr (by omega)),YI]
     rw[s1];simp only[T];refine inner k h1 (by omega) _ 1 k l H rfl (sl _) (by omega) (sl _) (by omega) (jo.refl _ _) rfl (λ_ _=>rfl) ?_ h;rw[hc,s,show k+1-1=k by omega,drop_cons f,D,cy,aa g.symm,acC];obtain⟨t,et⟩:=BI d (l.drop (k+1));rw[et,g];rfl
   · rw[ab (by simp[g])];simp only[b4,T];rw[wrap_i64 (n:=(k:Int)+1) (by omega) (by omega),iS k];refine w (k+1) (by omega) (by omega) (by omega) ?_;rw[hc,s,show k+1-1=k by omega,drop_cons f,D,cy,ab (λe=>g e.symm),acC];rfl
 exact outer _ 1 rfl (sl _) (by omega) (by simp)
end
end Rb

namespace Rb
open Go
def fF(kw:List UInt8→Bool):List (List UInt8)→List B→Int
 |_,[]=>0
 |seen,v::r=>if fk v.E=false∨kw v.E=true then 6 else if seen.contains v.E=true then 7 else if(aX v.type).2≠0 then(aX v.type).2 else fF kw (seen++[v.E]) r
theorem BJ(kw:List UInt8→Bool)(K:Int)(g:K=70000):∀(l:List B)(b:List (List UInt8)) (a:Int) (n:Nat),0≤a→a≤n*K→n+l.length≤32→lI kw b a l=if fF kw b l≠0 then fF kw b l else if ff a l>65536 then 9 else 0
 | [],b,a,n,i,h1,j=>by
  have e:ff a []=a:=by rw[ff]
  have f:fF kw b []=0:=by rw[fF]
  by_cases h:a>65536
  ·rw[lI,aa h,f,ab (λz=>z rfl),aa (by rw[e];exact h)]
  ·rw[lI,ab h,f,ab (λz=>z rfl),ab (by rw[e];exact h)]
 | v :: r,b,a,n,i,h1,j=>by
  rw[lI,fF,ff];by_cases e1:fk v.E=false∨kw v.E=true
  ·rw[aa e1,aa e1,kG]
  · rw [ab e1,ab e1];by_cases d:b.contains v.E=true
    ·rw[aa d,aa d,kG]
    · rw [ab d,ab d];by_cases c:(aX v.type).2≠0
      ·rw[aa c,aa c,aa c]
      · rw [ab c,ab c];have hz:(aX v.type).2=0:=by simpa using c
        obtain⟨b1,b2,b3,k⟩:=mi hz;rw[abD]at j;have m:a≤n*70000:=by rw[←g];exact h1
        have hu:=gE (n:=a) (step:=(aX v.type).1.2) (by omega);have hw:V (ca a (aX v.type).1.2+(aX v.type).1.1)=ek a v+(aX v.type).1.1:=by rw[mU i (by omega) (by omega) (by omega)];exact bH
        rw[hw];unfold ek;exact BJ kw K g r _ _ (n+1) (by omega) (by subst g;push_cast;omega) (by omega)
theorem Jr(kw:List UInt8→Bool):∀{l:List B}{seen:List (List UInt8)},fF kw seen l=0→∀v∈l,(aX v.type).2=0
 | v :: r,seen,h,w,hw=>by
  rw[fF]at h;split at h
  ·cases h
  · split at h
    ·cases h
    · split at h
      ·rename_i e;exact absurd h e
      · rename_i e;rcases aah.1 hw with rfl|hw
        ·simpa using e
        ·exact Jr kw h w hw
end Rb

namespace Rb
open Go
section
variable{C:Ctx}(aj:bN C)(hT:Cl (af C) S.bu)
include aj hT
end
end Rb

namespace Rb
open Go
section
variable{C:Ctx}(aj:bN C)(hT:Cl (af C) S.bu)
include aj hT
end
end Rb

namespace Rb
open Go
def Js(vars:List B)(s:u):List I:=[au B.cells vars,J s.lets,J s.X,J s.lG,J s.bI]
section
variable{C:Ctx}(aj:bN C)(hT:Cl (af C) S.bu)
include aj hT
end
end Rb

namespace Rb
open Go
section
variable{Φ:ai}{H:Z}{Q:ad}
end
section
variable{C:Ctx}(aj:bN C)(hT:Cl (af C) S.bu)
include aj hT
end
end Rb

namespace Rb
open Go
section
variable{C:Ctx}(aj:bN C)(hT:Cl (af C) S.bu){id:Nat}{vars:List B}
include aj hT
end
end Rb

namespace Rb
open Go
section
variable{Φ:ai}{k o:Int}{H:Z}{Q:ad}
end
section
variable{C:Ctx}(hT:Cl (af C) S.bu)
include hT
end
end Rb

namespace Rb
open Go
section
variable{C:Ctx}(aj:bN C)(hT:Cl (af C) S.bu){id:Nat}{vars:List B}
include aj hT
end
end Rb

namespace Rb
open Go
def Jt:List UInt8:=[118,97,114,32,116,104,114,101,97,100,32,115,116,114,117,99,116,32,117,110,105,111,110,32,112,97,99,107,101,100,32,117,56,32,117,49,54,32,117,51,50,32,117,54,52,32,97,56,32,97,49,54,32,97,51,50,32,97,54,52,32,97,49,50,56,32,108,101,116,32,115,101,116,32,119,114,105,116,101,32,115,116,111,114,101,32,108,111,97,100,50,32,115,116,111,114,101,50,32,102,101,110,99,101,32,105,102,32,101,108,115,101,32,119,104,105,108,101,32,112,114,105,110,116,32,114,101,97,100,32,108,111,97,100,32,97,100,100,32,115,119,97,112,32,99,97,115,32,114,108,120,32,97,99,113,32,114,101,108,32,115,99]
def qg:List (List UInt8):=[[118,97,114],[116,104,114,101,97,100],[115,116,114,117,99,116],[117,110,105,111,110],[112,97,99,107,101,100],[117,56],[117,49,54],[117,51,50],[117,54,52],[97,56],[97,49,54],[97,51,50],[97,54,52],[97,49,50,56],[108,101,116],[115,101,116],[119,114,105,116,101],[115,116,111,114,101],[108,111,97,100,50],[115,116,111,114,101,50],[102,101,110,99,101],[105,102],[101,108,115,101],[119,104,105,108,101],[112,114,105,110,116],[114,101,97,100],[108,111,97,100],[97,100,100],[115,119,97,112],[99,97,115],[114,108,120],[97,99,113],[114,101,108],[115,99]]
def dq(s:List UInt8):Bool:=qg.any λx=>s==x
section
variable{C:Ctx}(aj:bN C)(hT:Cl (af C) S.bu)
include aj hT
theorem TJ(hF:∀(H:Z)(Q:ad),Q (.ak .dead 34 (qg.map .str)) H→af C 139 [.str Jt] H Q)(s:List UInt8):bB (af C) 96 [.str s] (.bool (dq s)):=by
 intro H Q hQ;refine S.PB hT ?_;unfold S.f96;refine hF _ _ ?_;refine A7 hT (xs:=qg) rfl (λi x a=>?_) (by decide) hQ;have b:=(XV.1 a).1;refine⟨.ae ((qg.map I.str).drop (i*1)),?_,?_⟩
 · simp only[aP];have hl:qg.length=34:=rfl;rw[aa ⟨by omega,by omega⟩];simp
 · show bU _ 0 1 false=_;unfold bU;rw[aa (by rw[abM,List.length_map];omega)];simp[a]
end
end Rb

namespace Rb
open Go
section
variable{C:Ctx}(aj:bN C)(hT:Cl (af C) S.bu)
include aj hT
end
end Rb

namespace Rb
open Go
def so(H:Z)(id:Nat)(vars:List B)(s:u):Prop:=∃s',At H id (.row (Js vars s'))∧s'.bI=s.bI∧s'.lG=s.lG∧(s.bI=0→s'.lets=s.lets)
theorem so.of{H:Z}{id:Nat}{vars:List B}{s:u}(h:At H id (.row (Js vars s))):so H id vars s:=⟨s,h,rfl,rfl,λ_=>rfl⟩
theorem so.aJ{H:Z}{id:Nat}{vars:List B}{s t:u}(h:so H id vars s)(f:t.bI=s.bI)(g:t.lG=s.lG)(i:s.bI=0→t.lets=s.lets):so H id vars t:=by obtain⟨s',a,b,c,d⟩:=h;exact⟨s',a,b.trans f.symm,c.trans g.symm,λe=>(d (f▸e)).trans (i (f▸e)).symm⟩
section
variable(vars:List B)
end
section
variable{C:Ctx}(aj:bN C)(hT:Cl (af C) S.bu){id:Nat}{vars:List B}
include aj hT
end
end Rb

namespace Rb
open Go
section
variable{C:Ctx}(aj:bN C)(hT:Cl (af C) S.bu)
include aj hT
end
end Rb

namespace Rb
open Go
variable{w w' R S l0 l1 m:Nat}
structure dx where
 kind:Int
 dst:Int
 sq:Int
 a:Int
 b:Int
 c:Int
 n:Int
 op:Int
 size:Int
 aV:Int
 el:Int
 site:Int
 X:Int
def dx.cells(o:dx):List I:=[.int .i64 o.kind,.int .i64 o.dst,.int .i64 o.sq,.int .i64 o.a,.int .i64 o.b,.int .i64 o.c,.int .u64 o.n,.int .i64 o.op,.int .i64 o.size,.int .i64 o.aV,.int .i64 o.el,.int .i64 o.site,.int .i64 o.X]
theorem dx.len(o:dx):o.cells.length=13:=rfl
theorem dx.scalar(o:dx):o.cells.all I.scalar=true:=rfl
def BK(k:Int):dx:=⟨k,-1,-1,-1,-1,-1,0,0,0,0,0,0,0⟩
structure LD where
 A:List dx
 bn:Nat
 labels:Nat
 sn:Nat
 sc:List I
 X:Int
 L:List (List UInt8×Nat)
def jq(p:List UInt8×Nat):List I:=[.str p.1,.int .i64 (p.2:Int)]
def LD.add(c:LD)(o:dx):LD:={c with A:=c.A++[{o with X:=c.X}]}
def di(R:Nat)(r:Int):Prop:= -1≤r∧r<(R:Nat)
theorem di.mono{r:Int}(h:di R r)(k:R≤S):di S r:=⟨h.1,by have:=h.2;omega⟩
theorem di.none(R:Nat):di R (-1):=⟨ab_ _,by omega⟩
structure iA(R S:Nat)(o:dx):Prop where
 k1:1≤o.kind
 k2:o.kind≤18
 dst:di R o.dst
 sq:di R o.sq
 a:di R o.a
 b:di R o.b
 c:di R o.c
 site:4≤o.kind→o.kind≤13→1≤o.site∧o.site≤(S:Nat)
 size:4≤o.kind→o.kind≤7→o.size=1∨o.size=2∨o.size=4∨o.size=8
theorem iA.mono{R S e S':Nat}{o:dx}(h:iA R S o)(d:R≤e)(hS:S≤S'):iA e S' o:=⟨h.k1,h.k2,h.dst.mono d,h.sq.mono d,h.a.mono d,h.b.mono d,h.c.mono d,λa b=>by have:=h.site a b;omega,h.size⟩
theorem iA.X{o:dx}(h:iA R S o)(l:Int):iA R S {o with X:=l}:=⟨h.k1,h.k2,h.dst,h.sq,h.a,h.b,h.c,h.site,h.size⟩
def mn(o:dx):Prop:=¬(14≤o.kind∧o.kind≤16)
def iB(t:Int)(l:List dx):Nat:=(l.filter λo=>o.kind==14&&o.el==t).length
theorem BL(t:Int)(a b:List dx):iB t (a++b)=iB t a+iB t b:=by simp[iB]
structure fH(l0 l1:Nat)(new:List dx):Prop where
 le:l0≤l1
 el:∀o∈new,14≤o.kind→o.kind≤16→(l0:Int)<o.el∧o.el≤(l1:Int)
 one:∀t:Int,(l0:Int)<t→t≤(l1:Int)→iB t new=1
theorem om{a:List dx}(h:fH l0 l1 a){t:Int}(ht:t≤l0∨(l1:Int)<t):iB t a=0:=by unfold iB;rw[Zi,List.filter_eq_nil_iff];intro o b c;simp only[X1,bG]at c;have:=h.el o b (by omega) (by omega);omega
theorem fH.nil(l:Nat):fH l l []:=⟨sl _,λo a=>(by cases a),λt h1 b=>by omega⟩
theorem fH.trans{l0 l1 l2:Nat}{a b:List dx}(h:fH l0 l1 a)(k:fH l1 l2 b):fH l0 l2 (a++b):=by
 have h1:=h.le;have k1:=k.le;refine⟨by omega,λo c qh iX=>?_,λt t0 t1=>?_⟩
 · rcases aaa.1 c with c|c
   ·have:=h.el o c qh iX;omega
   ·have:=k.el o c qh iX;omega
 · rw[BL];by_cases hm:t≤l1
   ·rw[h.one t t0 hm,om k (.inl hm)]
   ·rw[om h (.inr (by omega)),k.one t (by omega) t1]
theorem fH.none{l:Nat}{new:List dx}(h:∀o∈new,mn o):fH l l new:=⟨sl _,λo c a b=>absurd ⟨a,b⟩ (h o c),λt h1 d=>by omega⟩
structure BD(c:LD)(w:Nat):Prop where
 A:c.A.length+w≤1000000000000
 r:c.bn+w≤1000000000000
 l:c.labels+w≤1000000000000
 s:c.sn+w≤1000000000000
 L:c.L.length+w≤1000000000000
structure bm where
 kind:Int
 aV:Int
 X:Int
 place:aN
def bm.cells(a:bm):List I:= .int .i64 a.kind :: .int .i64 a.aV :: .int .i64 a.X::(if a.kind=7 then [.str [],.ak .nil 0 []]else a.place.cells)
structure GE(c c':LD)(w:Nat)(k:List bm):Prop where
 new:∃new,c'.A=c.A++new∧new.length≤w∧(∀o∈new,iA c'.bn c'.sn o∧mn o)
 r0:c.bn≤c'.bn
 r1:c'.bn≤c.bn+w
 s1:c'.sn=c.sn+k.length
 sc:c'.sc=c.sc++k.flatMap bm.cells
 sw:k.length≤w
 kK:c'.labels=c.labels
 L:c'.L=c.L
 X:c'.X=c.X
theorem GE.s0{c c':LD}{k:List bm}(h:GE c c' w k):c.sn≤c'.sn:=by rw[h.s1];omega
theorem GE.s2{c c':LD}{k:List bm}(h:GE c c' w k):c'.sn≤c.sn+w:=by have:=h.sw;rw[h.s1];omega
theorem GE.refl(c:LD):GE c c 0 []:=⟨⟨[],by simp,sl _,λo a=>by cases a⟩,sl _,sl _,rfl,(abK _).symm,sl _,rfl,rfl,rfl⟩
theorem GE.trans{c b d:LD}{k k':List bm}(h:GE c b w k)(g:GE b d w' k'):GE c d (w+w') (k++k'):=by
 obtain⟨n1,a1,b1,d1⟩:=h.new;obtain⟨n2,a2,b2,d2⟩:=g.new;have h1:=h.r0;have e:=h.r1;have f:=h.s0;have i:=h.s1;have j:=h.sw;have g1:=g.r0;have g2:=g.r1;have g3:=g.s0;have g4:=g.s1;have g5:=g.sw;refine⟨⟨n1++n2,by rw[a2,a1,acC],by rw[abC];omega,λo a=>?_⟩,by omega,by omega,by rw[abC];omega,by rw[g.sc,h.sc,acB,acC],by rw[abC];omega,g.kK.trans h.kK,g.L.trans h.L,g.X.trans h.X⟩;rcases aaa.1 a with a|a
 ·exact⟨(d1 o a).1.mono g1 g3,(d1 o a).2⟩
 ·exact d2 o a
theorem GE.mono{c c':LD}{k k':List bm}(h:GE c c' w k)(b:w≤w')(a:k=k'):GE c c' w' k':=by obtain⟨n1,a1,b1,d1⟩:=h.new;subst a;have d:=h.r1;have e:=h.s1;have f:=h.sw;exact⟨⟨n1,a1,by omega,d1⟩,h.r0,by omega,h.s1,h.sc,by omega,h.kK,h.L,h.X⟩
theorem BD.mono{c:LD}(h:BD c w)(k:w'≤w):BD c w':=⟨by have:=h.A;omega,by have:=h.r;omega,by have:=h.l;omega,by have:=h.s;omega,by have:=h.L;omega⟩
theorem GE.bd{c c':LD}{k:List bm}(g:GE c c' w k)(h:BD c (w+m)):BD c' m:=by obtain⟨n1,a1,b1,d1⟩:=g.new;have h1:=h.A;have a:=h.r;have b:=h.l;have d:=h.s;have e:=h.L;have g2:=g.r1;have g5:=g.s2;refine⟨by rw[a1,abC];omega,by omega,by rw[g.kK];omega,by omega,by rw[g.L];omega⟩
theorem GE.add{c:LD}{o:dx}(h:iA c.bn c.sn o)(hn:mn o):GE c (c.add o) 1 []:=
 ⟨⟨[{o with X:=c.X}],rfl,sl _,λp hp=>by rw[acL]at hp;subst hp;exact⟨h.X _,hn⟩⟩,sl _,YB _,rfl,(abK _).symm,Yt _,rfl,rfl,rfl⟩
theorem GE.BM{c:LD}{o:dx}(h:iA (c.bn+1) c.sn o)(hn:mn o):GE c ({c with bn:=c.bn+1}.add o) 1 []:=
 ⟨⟨[{o with X:=c.X}],rfl,sl _,λp hp=>by rw[acL]at hp;subst hp;exact⟨h.X _,hn⟩⟩,YB _,sl _,rfl,(abK _).symm,Yt _,rfl,rfl,rfl⟩
structure GS(c c':LD)(w:Nat)(k:List bm):Prop where
 new:∃new,c'.A=c.A++new∧new.length≤w∧(∀o∈new,iA c'.bn c'.sn o)∧fH c.labels c'.labels new
 r0:c.bn≤c'.bn
 r1:c'.bn≤c.bn+w
 s1:c'.sn=c.sn+k.length
 sc:c'.sc=c.sc++k.flatMap bm.cells
 sw:k.length≤w
 l1:c'.labels≤c.labels+w
theorem GE.gs{c c':LD}{k:List bm}(h:GE c c' w k):GS c c' w k:=by obtain⟨n1,a1,b1,d1⟩:=h.new;exact⟨⟨n1,a1,b1,λo a=>(d1 o a).1,by rw[h.kK];exact fH.none λo a=>(d1 o a).2⟩,h.r0,h.r1,h.s1,h.sc,h.sw,by rw[h.kK];omega⟩
theorem GS.trans{c b d:LD}{k k':List bm}(h:GS c b w k)(g:GS b d w' k'):GS c d (w+w') (k++k'):=by
 obtain⟨n1,a1,b1,d1,e1⟩:=h.new;obtain⟨n2,a2,b2,d2,e⟩:=g.new;have h1:=h.r0;have f:=h.r1;have i:=h.s1;have j:=h.sw;have l:=h.l1;have g1:=g.r0;have g2:=g.r1;have g4:=g.s1;have g5:=g.sw;have g6:=g.l1;refine⟨⟨n1++n2,by rw[a2,a1,acC],by rw[abC];omega,λo a=>?_,e1.trans e⟩,by omega,by omega,by rw[abC];omega,by rw[g.sc,h.sc,acB,acC],by rw[abC];omega,by omega⟩;rcases aaa.1 a with a|a
 ·exact(d1 o a).mono g1 (by omega)
 ·exact d2 o a
theorem GS.mono{c c':LD}{k k':List bm}(h:GS c c' w k)(b:w≤w')(a:k=k'):GS c c' w' k':=by obtain⟨n1,a1,b1,d1,e1⟩:=h.new;subst a;have d:=h.r1;have e:=h.sw;have f:=h.l1;exact⟨⟨n1,a1,by omega,d1,e1⟩,h.r0,by omega,h.s1,h.sc,by omega,by omega⟩
theorem GS.A{c c':LD}{k:List bm}(g:GS c c' w k):c'.A.length≤c.A.length+w:=by obtain⟨n1,a1,b1,d1,e1⟩:=g.new;rw[a1,abC];omega
theorem GS.bd{c c':LD}{k:List bm}(g:GS c c' w k)(h:BD c (w+m))(a:c'.L.length≤c.L.length+w):BD c' m:=by have h1:=h.A;have b:=h.r;have d:=h.l;have e:=h.s;have f:=h.L;have g1:=g.A;have g2:=g.r1;have g4:=g.s1;have g5:=g.sw;have g6:=g.l1;exact⟨by omega,by omega,by omega,by omega,by omega⟩
mutual
def dO:ax→Nat
 | .mk kind n E op aV place bq=>16+(if kind≥4 then 256 else 0)+fI place+dK bq
def dK:List ax→Nat
 |[]=>0
 |e::r=>dO e+dK r
def fI:aN→Nat
 | .mk var aB=>gG aB
def gG:List K→Nat
 |[]=>0
 |p::r=>mo p+gG r
def mo:K→Nat
 | .mk field bc=>dK bc
end
mutual
def gm(l:Int):ax→List bm
 | .mk kind n E op aV place bq=>gH l place++dP l bq++(if kind≥4 then [⟨10+kind,aV,l,place⟩]else [])
def dP(l:Int):List ax→List bm
 |[]=>[]
 |e::r=>gm l e++dP l r
def gH(l:Int):aN→List bm
 | .mk var aB=>jr l aB
def jr(l:Int):List K→List bm
 |[]=>[]
 |p::r=>oo l p++jr l r
def oo(l:Int):K→List bm
 | .mk field bc=>dP l bc
end
mutual
def ki:ay→Nat
 | .mk kind X E cg aV place bf bg bx=>16+(if 3≤kind∧kind≤7 then 256 else 0)+fI place+dK bf+(cn bg+cn bx)
def cn:List ay→Nat
 |[]=>0
 |x::r=>ki x+cn r
end
mutual
def kL:ay→List bm
 | .mk kind X E cg aV place bf bg bx=>gH X place++dP X bf++(if 3≤kind∧kind≤7 then [⟨kind,aV,X,place⟩]else [])++(fg bg++fg bx)
def fg:List ay→List bm
 |[]=>[]
 |x::r=>kL x++fg r
end
theorem Ju(e:ax):dO e=16+(if e.kind≥4 then 256 else 0)+fI e.place+dK e.bq:=by cases e;rw[dO]
theorem TK(x:aN):fI x=gG x.aB:=by cases x;rw[fI]
theorem Jv(p:K):mo p=dK p.bc:=by cases p;rw[mo]
theorem xk(l:Int)(e:ax):gm l e=gH l e.place++dP l e.bq++(if e.kind≥4 then [⟨10+e.kind,e.aV,l,e.place⟩]else []):=by cases e;rw[gm]
theorem oq(l:Int)(x:aN):gH l x=jr l x.aB:=by cases x;rw[gH]
theorem Jw(l:Int)(p:K):oo l p=dP l p.bc:=by cases p;rw[oo]
theorem Jx(x:ay):ki x=16+(if 3≤x.kind∧x.kind≤7 then 256 else 0)+fI x.place+dK x.bf+(cn x.bg+cn x.bx):=by cases x;rw[ki]
theorem Jy(x:ay):kL x=gH x.X x.place++dP x.X x.bf++(if 3≤x.kind∧x.kind≤7 then [⟨x.kind,x.aV,x.X,x.place⟩]else [])++(fg x.bg++fg x.bx):=by cases x;rw[kL]
end Rb

namespace Rb
open Go
variable{t:U}{f:aw}{s:be}
def XF(f:aw)(x:Int×Int):Prop:=0≤x.1∧(f.bits=true→0≤x.2∧x.2≤64)∧(f.bits=false→x.2=8*(A f.type).1.1)
theorem TL{packed:Bool}{kind a:Int}(d:0≤a)(g:mV packed f)(hb:qa f.type)(ht:(A f.type).2=true):XF f ((eV packed kind a f (A f.type).1).1,(eV packed kind a f (A f.type).1).2.1):=by
 obtain⟨b1,b2,b3,i⟩:=hb ht;have h:0≤(if kind=4 then(0:Int)else a):=by split;decide;exact d
 unfold eV;dsimp only;generalize (if kind=4 then(0:Int)else a)=b at *;by_cases c:f.bits=true
 · obtain ⟨j,k,l,y3,y4,_⟩:=g c;rw[aa c];refine⟨?_,λ_=>⟨y3,?_⟩,λe=>by rw[c]at e;cases e⟩
   · show 0≤bO b _;split
     ·have:=gE (n:=b) (step:=8*f.type.size) (by omega);omega
     ·rw[rX];exact h
   ·show f.aM≤64;omega
 · rw[ab c];refine⟨?_,λe=>absurd e c,λ_=>rfl⟩;show 0≤bO b _;split
   ·have:=gE (n:=b) (step:=8) (by omega);omega
   ·have:=gE (n:=b) (step:=8*(A f.type).1.2) (by omega);omega
theorem Jz{packed:Bool}{kind:Int}:∀{l:List aw}{p q:PL}{n:Nat},n+l.length≤32→iW p n→(∀f∈l,mV packed f∧qa f.type)→dY packed kind p l=some q →
  ∃ss:List be,q.dv=p.dv++ss∧∀(i:Nat)(f:aw)(s:be),l[i]?=some f→ss[i]?=some s→∃x,s=jI f x∧XF f x
 | [],p,q,n,hn,hp,hl,h=>by simp only[dY,Yb.injEq]at h;subst h;exact⟨[],by simp,λi f s hf=>by simp at hf⟩
 | f :: r,p,q,n,hn,hp,hl,h=>by
  obtain⟨o1,o2⟩:=hl f (aaj ..);have c:n+1+r.length≤32:=by rw[abD]at hn;omega
  simp only[dY,p8]at h;by_cases ht:(A f.type).2=true
  · rw [aa ht]at h;obtain⟨b1,b2,b3,d⟩:=o2 ht;have hb:f.bits=true→1≤f.type.size∧f.type.size≤8∧0≤f.aM∧f.aM≤8*f.type.size∧packed=false∧(A f.type).1.2=f.type.size:=λhb=>by
     obtain⟨e,z2,z3,z4,z5,j⟩:=o1 hb;exact⟨z2,z3,z4,z5,j,by rw[mh (.inl e)]⟩
    obtain⟨e1,k⟩:=AX (packed:=packed) (kind:=kind) (g:=(A f.type).1) (by omega) hp b1 b2 b3 d (λq=>⟨(hb q).1,(hb q).2.1,(hb q).2.2.1,(hb q).2.2.2.1⟩);have m:=AZ (kind:=kind) hp (f:=f) (g:=(A f.type).1) b3 (λq=>⟨(hb q).1,(hb q).2.2.1,(hb q).2.2.2.1,(hb q).2.2.2.2.1,(hb q).2.2.2.2.2⟩);obtain⟨ss,b,o⟩:=Jz c k (λg a=>hl g (aai _ a)) h;rw[e1,m]at b;refine⟨jI f ((eV packed kind p.bit f (A f.type).1).1,(eV packed kind p.bit f (A f.type).1).2.1)::ss,by rw[b,acC];rfl,λi g s a hs=>?_⟩;cases i with
    | zero=>simp only[abj,Yb.injEq]at a hs;subst a;exact⟨_,hs.symm,TL hp.b0 o1 o2 ht⟩
    | succ i=>simp only[abk]at a hs;exact o i g s a hs
  ·rw[ab ht]at h;cases h
structure ot(t:U)(s:be):Prop where
 bits:s.bits=true→t.kind=1∧0≤s.len∧s.len≤9
 len:s.bits=false→s.len=(aX t).1.1
 bit:0≤s.bit∧s.bit≤7
 wid:0≤s.aM
theorem BN(h:t.lay)(a:t.kind=3∨t.kind=4){n:Nat}(hf:t.aE[n]?=some f)(hs:(cq t)[n]?=some s)(d:f.type.lay):ot f.type s:=by
 obtain⟨p,hp,_⟩:=qc h a;have b:=fD h.snd;have hlen:=A3 b a;have c:∀f∈t.aE,mV t.packed f:=by
  have hs:=b;rw[gD]at hs;split at hs
  ·exact absurd hs (by decide)
  · rw[ab (show ¬t.kind=1 by omega),ab (show ¬t.kind=2 by omega),ab (show ¬t.kind=5 by omega),bw]at hs;exact A2 hs
 obtain⟨ss,g,i⟩:=Jz (n:=0) (by omega) iW.zero (λf hf=>⟨c f hf,A4 f.type ((mR b a).1 f hf)⟩) hp;unfold cq at hs;rw[hp]at hs;dsimp only at hs;rw[g]at hs;obtain⟨x,e,m,j,k⟩:=i n f s hf (by simpa using hs);have l:=d.zero;rw[e];unfold jI;by_cases hb:f.bits=true
 · rw[aa hb];obtain⟨z0,o⟩:=j hb;refine⟨λ_=>⟨(c f (aaH hf) hb).1,?_,?_⟩,λe=>(by cases e),⟨?_,?_⟩,z0⟩
   ·show 0≤(if x.2>0 then _ else _);split<;>omega
   ·show(if x.2>0 then _ else _)≤_;split<;>omega
   ·show 0≤x.1%8;omega
   ·show x.1%8≤7;omega
 · rw[ab hb];have:=k (by simpa using hb);refine⟨λe=>(by cases e),λ_=>?_,⟨ab_ 0,(by decide:(0:Int)≤7)⟩,ab_ 0⟩;show x.2/8=(aX f.type).1.1;rw[l,this];dsimp only;omega
theorem sr(ht:t.lay)(h:ot t s)(a:t.kind=1∨t.kind=2):0≤s.len∧s.len≤16∧(t.kind=2→s.len=t.size)∧(t.size=1∨t.size=2∨t.size=4∨t.size=8∨t.size=16):=by
 have hs:=fD ht.snd;have hz:=wV hs a;have hp : t.size=1∨t.size=2∨t.size=4∨t.size=8∨t.size=16:=by
  rw[gD]at hs;split at hs
  ·cases hs
  · have hp:fm t.size 8=true∨fm t.size 16=true:=by
      rcases a with h1|h1
      · rw[aa h1]at hs;split at hs
        ·exact .inl ‹_›
        ·cases hs
      · rw[bw,aa h1]at hs;split at hs
        ·exact .inr ‹_›
        ·cases hs
    rcases hp with hp|hp<;>(simp[fm]at hp;omega)
 have hl:(aX t).1.1=t.size:=by rw[ht.zero,mh a]
 cases hb:s.bits with
 | true=>have:=h.bits hb;exact⟨this.2.1,by omega,λe=>by omega,hp⟩
 | false=>have:=h.len hb;rw[hl]at this;exact⟨by omega,by omega,λ_=>this,hp⟩
theorem xm{k:Int}(h:jk k t=true):(t.kind=1∨t.kind=2)∧((k=3∨k=14)→t.kind=1)∧(¬(k=3∨k=14)→t.kind=2)∧(¬(k=3∨k=14)→¬(k=5∨k=6)→t.size≤8):=by
 unfold jk at h;by_cases h1:k=3∨k=14
 · rw[aa h1]at h;have:t.kind=1:=by simpa using h
   exact⟨.inl this,λ_=>this,λe=>absurd h1 e,λe=>absurd h1 e⟩
 · rw [ab h1]at h;by_cases a:k=5∨k=6
   · rw[aa a]at h;simp only[X1,bG]at h;exact⟨.inr h.1,λe=>absurd e h1,λ_=>h.1,λ_ e=>absurd a e⟩
   · rw[ab a]at h;simp only[X1,bG,dU]at h;exact⟨.inr h.1,λe=>absurd e h1,λ_=>h.1,λ_ _=>h.2⟩
end Rb

namespace Rb
open Go
variable{x:I}{n0 sz len:Nat}{cells:List I}{n:Int}
def kj(vars:List B)(wh xo xs F:I)(c:LD):List I:=[au B.cells vars,wh,xo,.int .i64 (c.bn:Nat),.int .i64 (c.labels:Nat),xs,.int .i64 c.X,F]
structure bC(H:Z)(id:Nat)(vars:List B)(wh F:I)(c:LD):Prop where
 x:∃xo xs,At H id (.row (kj vars wh xo xs F c))∧cC (id+1) H 13 xo c.A.length (c.A.flatMap dx.cells)∧cC (id+1) H 5 xs c.sn c.sc∧∀t l c1,xo = .ak (.own t) l c1→∀l2 c2,xs ≠ .ak (.own t) l2 c2
 l:cK H 2 F c.L.length (c.L.flatMap jq)
 ld:∀j,bS F=some j→id<j
 lo:∀p∈c.L,p.2<c.bn
theorem bC.su{H:Z}{id:Nat}{vars:List B}{wh F:I}{c:LD}(h:bC H id vars wh F c):bS F≠some id:=λe=>acM _ (h.ld _ e)
def KR(id:Nat)(H H':Z):Prop:=H.n≤H'.n∧∀i cs,i≠id→At H i (.row cs)→At H' i (.row cs)
section
variable{id j k N:Nat}{vars:List B}{wh F v:I}{c c':LD}{H0 H H1 H2:Z}{cs:List I}
theorem KR.refl:KR id H H:=⟨sl _,λ_ _ _ h=>h⟩
theorem KR.trans(h:KR id H H1)(k:KR id H1 H2):KR id H H2:=⟨xl h.1 k.1,λi cs hi a=>k.2 i cs hi (h.2 i cs hi a)⟩
theorem KR.ext(E:Z.Ext H H1):KR id H H1:=⟨E.1,λ_ _ _ h=>h.ext E⟩
theorem KR.set(o:bM):KR id H (H.set id o):=⟨sl _,λ_ _ hi h=>h.bZ hi o⟩
theorem cC.JA(h:cC n0 H sz x len cells)(k:∀t l d a b,x = .ak (.own t) l d→At H t (.tok a b)→At H1 t (.tok a b)):cC n0 H1 sz x len cells:=by
 obtain⟨tk,c,hc,ht⟩:=h;refine⟨tk,c,hc,?_⟩;rcases ht with ht|ht|⟨t,rfl,e,f⟩
 ·exact .inl ht
 ·exact .inr (.inl ht)
 ·exact .inr (.inr ⟨t,rfl,e,k t _ _ _ _ c f⟩)
def One(v:I):Prop:=v.known=true∧v.cells=[v]∧v.scalar=true
theorem One.int{k:IntKind}:One (.int k n):=⟨rfl,rfl,rfl⟩
theorem cC.one(h:cC n0 H sz x len cells):One x∧bp false x=some (.int .i64 len):=by obtain⟨tk,rfl,_⟩:=h;exact⟨⟨rfl,rfl,rfl⟩,rfl⟩
theorem At.st1(h:At H j (.row cs))(a:k<cs.length)(hv:One v):Y H 1 (.ptr j k) v=some (H.set j (.row (cs.set k v))):=by rw[h.store,aa ⟨hv.1,by rw[hv.2.1];rfl,by rw[hv.2.1];simp[hv.2.2],a⟩,hv.2.1];rfl
theorem bC.ext(h:bC H id vars wh F c)(E:Z.Ext H H1):bC H1 id vars wh F c:=by obtain⟨xo,xs,a,b,d,e⟩:=h.x;exact⟨⟨xo,xs,a.ext E,b.frame λ_ _ _ h=>h.ext E,d.frame λ_ _ _ h=>h.ext E,e⟩,h.l.ext E,h.ld,h.lo⟩
theorem bC.other(h:bC H id vars wh F c)(g:At H j (.row cs))(i:j≠id)(k:bS F≠some j)(ds:List I):bC (H.set j (.row ds)) id vars wh F c:=by obtain⟨xo,xs,a,b,d,e⟩:=h.x;have f:∀t a b,At H t (.tok a b)→At (H.set j (.row ds)) t (.tok a b):=λt a b h=>h.bZ (h.ne g (by intro e;cases e)) _;exact⟨⟨xo,xs,a.bZ i.symm _,b.frame f,d.frame f,e⟩,h.l.set k _,h.ld,h.lo⟩
theorem bC.uq(h:bC H id vars wh F c):O H 1 false (.ptr id 3)=some (.int .i64 (c.bn:Nat)):=by obtain⟨xo,xs,a,_⟩:=h.x;rw[a.load];rfl
theorem bC.kK(h:bC H id vars wh F c):O H 1 false (.ptr id 4)=some (.int .i64 (c.labels:Nat)):=by obtain⟨xo,xs,a,_⟩:=h.x;rw[a.load];rfl
theorem bC.ln(h:bC H id vars wh F c):O H 1 false (.ptr id 6)=some (.int .i64 c.X):=by obtain⟨xo,xs,a,_⟩:=h.x;rw[a.load];rfl
theorem bC.lcs(h:bC H id vars wh F c):O H 1 false (.ptr id 7)=some F:=by obtain⟨xo,xs,a,_⟩:=h.x;rw[a.load];rfl
theorem bC.vs(h:bC H id vars wh F c):O H 1 false (.ptr id 0)=some (au B.cells vars):=by obtain⟨xo,xs,a,_⟩:=h.x;rw[a.load];rfl
theorem bC.TM(h:bC H id vars wh F c):O H 1 false (.ptr id 1)=some wh:=by obtain⟨xo,xs,a,_⟩:=h.x;rw[a.load];rfl
theorem bC.own(h:bC H id vars wh F c)(f:(k=3∧n=c'.bn∧c.bn≤c'.bn∧c'.labels=c.labels∧c'.X=c.X)∨(k=4∧n=c'.labels∧c'.bn=c.bn∧c'.X=c.X)∨(k=6∧n=c'.X∧c'.bn=c.bn∧c'.labels=c.labels))(i:c'.A=c.A)(j:c'.sn=c.sn)(m:c'.sc=c.sc)(g:c'.L=c.L) :
  ∃H',Y H 1 (.ptr id k) (.int .i64 n)=some H'∧KR id H H'∧bC H' id vars wh F c':=by
 obtain⟨xo,xs,a,b,d,e⟩:=h.x;refine⟨_,a.st1 (by rcases f with⟨rfl,_⟩|⟨rfl,_⟩|⟨rfl,_⟩<;>(show _<8;decide)) One.int,KR.set _,⟨xo,xs,?_,?_,?_,e⟩,by rw[g];exact h.l.set h.su _,h.ld,?_⟩
 · have:(kj vars wh xo xs F c).set k (.int .i64 n)=kj vars wh xo xs F c':=by
     unfold kj;rcases f with⟨rfl,rfl,_,k1,k2⟩|⟨rfl,rfl,k1,k2⟩|⟨rfl,rfl,k1,k2⟩<;>(rw[k1,k2];rfl)
   rw[this];exact a.set _
 ·rw[i];exact b.frame λt _ _ h=>h.bZ (h.ne a (by intro e;cases e)) _
 ·rw[j,m];exact d.frame λt _ _ h=>h.bZ (h.ne a (by intro e;cases e)) _
 · rw[g];intro p hp;have:=h.lo p hp;rcases f with⟨_,_,k1,_⟩|⟨_,_,k1,_⟩|⟨_,_,k1,_⟩<;>omega
structure Bx(H0:Z)(id:Nat)(F:I)(H:Z)(j N:Nat)(cs:List I):Prop where
 a:At H j (.row cs)
 ne:j≠id
 nx:bS F≠some j
 lo:H0.n≤j
 len:cs.length=N
theorem Bx.aJ(b:Bx H0 id F H j N cs)(k:KR id H H1):Bx H0 id F H1 j N cs:=⟨k.2 _ _ b.ne b.a,b.ne,b.nx,b.lo,b.len⟩
theorem bC.box(h:bC H id vars wh F c)(k:KR id H0 H)(hl:cs.length=N):Bx H0 id F (H.push (.row cs)) H.n N cs:=by obtain⟨xo,xs,a,_⟩:=h.x;exact⟨At.new H _,by have:=a.1;omega,λe=>by have:=h.l.lt e;omega,k.1,hl⟩
theorem KR.box(k:KR id H0 H)(b:H0.n≤j)(o:bM):KR id H0 (H.set j o):=⟨k.1,λi cs hi a=>(k.2 i cs hi a).bZ (by have:=a.1;omega) o⟩
theorem Bx.other{c:Nat}(b:Bx H0 id F H j N cs)(h:j≠c)(o:bM):Bx H0 id F (H.set c o) j N cs:=⟨b.a.bZ h o,b.ne,b.nx,b.lo,b.len⟩
theorem Bx.set(b:Bx H0 id F H j N cs)(ds:List I)(hl:ds.length=N):Bx H0 id F (H.set j (.row ds)) j N ds:=⟨b.a.set _,b.ne,b.nx,b.lo,hl⟩
theorem Bx.lt(b:Bx H0 id F H j N cs)(k:KR id H H1):j<H1.n:=AH b.a.1 k.1
theorem Bx.st(b:Bx H0 id F H j N cs)(h:bC H id vars wh F c)(e:KR id H0 H)(f:k<N)(hv:One v){P:Z→Prop}
  (g:∀H',KR id H0 H'→bC H' id vars wh F c→Bx H0 id F H' j N (cs.set k v)→(∀d M ds,d≠j→Bx H0 id F H d M ds→Bx H0 id F H' d M ds)→P H'):Do (Y H 1 (.ptr j k) v) P:=by
 rw[b.a.st1 (by rw[b.len];exact f) hv,T];exact g _ (e.box b.lo _) (h.other b.a b.ne b.nx _) (b.set _ (by rw[aag];exact b.len)) λd M ds hn b2=>b2.other hn _
theorem Bx.ld(b:Bx H0 id F H j N cs)(c:cs[k]?=some x):O H 1 false (.ptr j k)=some x:=by rw[b.a.load];unfold bU;have:=(XV.1 c).1;rw[cG,eM];exact c
theorem Bx.all(b:Bx H0 id F H j N cs):O H N true (.ptr j 0)=some (.agg cs):=b.a.all b.len
end
section
variable{C:Ctx}(aj:bN C)(hT:Cl (af C) S.bu){id:Nat}{vars:List B}{wh F:I}{c:LD}{H0 H:Z}{Q:ad}
include aj hT
theorem jL{P:I→Z→Prop}{k:Int}(h:bC H id vars wh F c)(b:KR id H0 H)(d:∀j H',KR id H H'→bC H' id vars wh F c→Bx H0 id F H' j 13 (BK k).cells→H.n≤j→P (.ptr j 0) H') :
  af C 107 [.int .i64 k] H λe H2=>ar (some (aL H2 true [.int .i64 0,.int .i64 0,.int .i64 0,.int .i64 0,.int .i64 0,.int .i64 0,.int .u64 0,.int .i64 0,.int .i64 0,.int .i64 0,.int .i64 0,.int .i64 0,.int .i64 0])) λa f=>Do (Y f 13 a e) λg=>P a g:=by
 refine S.PN hT ?_;unfold S.f107;rw[show bo [.int .i64 0,.int .i64 0,.int .i64 0,.int .i64 0,.int .i64 0,.int .i64 0,.int .u64 0,.int .i64 0,.int .i64 0,.int .i64 0,.int .i64 0,.int .i64 0,.int .i64 0] [(0,1,.int .i64 k),(1,1,(.int .i64 (-1))),(2,1,(.int .i64 (-1))),(3,1,(.int .i64 (-1))),(4,1,(.int .i64 (-1))),(5,1,(.int .i64 (-1)))]=some (.agg (BK k).cells)from rfl];simp only[aL,a_,aR,T];rw[cS _ _ _ 13 rfl rfl rfl];simp only[T,eL];rw[gL (n:=13) rfl];simp only[T];rw[cS _ _ _ 13 rfl rfl rfl];simp only[T];have E:=Z.Ext.push H (.row (BK k).cells);have h1:=h.ext E;have k1:=b.trans (KR.ext E);exact d _ _ ((KR.ext E).trans (KR.ext (Z.Ext.push _ _))) (h1.ext (Z.Ext.push _ _)) (h1.box k1 rfl) (YB _)
theorem jt(h:bC H id vars wh F c)(hl:c.A.length≤1000000000000)(o:dx)(hQ:∀H',KR id H H'→bC H' id vars wh F (c.add o)→Q (.aq []) H'):af C 109 [.ptr id 0,.agg o.cells] H Q:=by
 refine S.PQ hT ?_;unfold S.f109;have hb:aO H true 13 (.agg o.cells)=some (.ptr H.n 0,H.push (.row o.cells)):=by unfold aO;rw[aa ⟨rfl,o.len⟩];rfl
 rw[hb];simp only[aR,aZ,W,YI,T];have b1:=h.box (KR.refl (id:=id)) o.len;have k1:KR id H (H.push (.row o.cells)):=KR.ext (Z.Ext.push _ _);have h1:=h.ext (Z.Ext.push H (.row o.cells));simp only[h1.ln,T];refine b1.st h1 k1 (by decide) One.int λH2 k2 f b2 _=>?_;have b:o.cells.set 12 (.int .i64 c.X)=({o with X:=c.X}:dx).cells:=rfl;rw[b]at b2;obtain⟨xo,xs,a,k,hs,p⟩:=f.x;rw[a.load,show bU (kj vars wh xo xs F c) 2 1 false=some xo from rfl];simp only[T,b2.all];rw[show dk H2 false 13 1 [.int .i64 0,.int .i64 0,.int .i64 0,.int .i64 0,.int .i64 0,.int .i64 0,.int .u64 0,.int .i64 0,.int .i64 0,.int .i64 0,.int .i64 0,.int .i64 0,.int .i64 0] [(0,13,.agg ({o with X:=c.X}:dx).cells)]=some (.ak .full 1 ({o with X:=c.X}:dx).cells,H2)from rfl];simp only[aR];refine k.IZ (by have:=a.1;omega) (m:=1) (news:=({o with X:=c.X}:dx).cells) rfl rfl rfl (by decide) (by omega) (by omega) λq r hn hk=>?_;have g:∀i ds,At H2 i (.row ds)→At q i (.row ds):=λi ds hi=>hk i _ hi λl cs e=>by
  subst e;obtain⟨tk,e1,_,b⟩:=k;cases e1;rcases b with⟨e,_⟩|e|⟨t,e,_,b⟩
  ·cases e
  ·cases e
  ·cases e;exact absurd (b.2.symm.trans hi.2) (by intro e;cases e)
 have a3:=g _ _ a;rw[a3.st1 (by show 2<8;decide) ⟨rfl,rfl,rfl⟩];simp only[T];refine hQ _ (k2.trans (KR.trans ⟨acu hn,λi ds _=>g i ds⟩ (KR.set _))) ⟨⟨_,xs,a3.set _,?_,?_,λt l c1 e l2 c2 b=>?_⟩,(f.l.aJ λi cs _=>g i cs).set f.su _,f.ld,f.lo⟩
 · have e:(c.add o).A=c.A++[{o with X:=c.X}]:=rfl;rw[e,abC,acB,acN];exact r.frame λt _ _ h=>h.bZ (h.ne a3 (by intro e;cases e)) _
 ·exact hs.JA λt l d x y e ht=>(hk t _ ht λl1 c1 e1=>p t l1 c1 e1 _ _ e).bZ (ht.ne a (by intro e;cases e)) _
 · cases e;obtain⟨tk,e1,_,j⟩:=hs;rw[b]at e1;cases e1;rcases j with⟨e,_⟩|e|⟨t,e,_,j⟩
   ·cases e
   ·cases e
   ·cases e;have:=j.1;omega
end
end Rb

namespace Rb
open Go
structure nf(Φ:ai):Prop where
 row:∀{H:Z}{Q:ad}{id:Nat}{cs:List I}{l:List (Int×Int)},At H id (.row cs)→cs.take (l.length*2)=l.flatMap av→l.length<4611686018427387904→Q (.aq []) (H.set id (.row ((ef l).flatMap av++cs.drop (l.length*2))))→Φ 89 [.row id 0 l.length 2,.fn 90 []] H Q
 none:∀{H:Z}{Q:ad}{tk:Tok},Q (.aq []) H→Φ 89 [.ak tk 0 [],.fn 90 []] H Q
theorem xp:∀l:List (Int×Int),(cy l).length≤l.length
 |[]=>by rw[cy];exact sl _
 |[x]=>by rw[cy];exact sl _
 | x::y::r=>by
  rw[cy];split
  ·have:=xp (y::r);rw[abD];omega
  ·have:=xp (y::r);rw[abD,abD];omega
structure Bk.ok(b:Bk):Prop where
 a:b.l.length≤8193
 n:b.full=false→b.l.length≤8192
theorem Bk.TN{b:Bk}(h:b.l.length≤8193):b.tidy.ok:=by
 have:=xp (ef b.l);rw[nT]at this;refine⟨by show(cy (ef b.l)).length≤_;omega,λe=>?_⟩;have h1:(b.full||decide ((cy (ef b.l)).length>4096))=false:=e;rw[aak]at h1;have a:¬(cy (ef b.l)).length>4096:=by simpa using h1.2
 show(cy (ef b.l)).length≤_;omega
theorem Bk.xf{b:Bk}(h:b.ok)(s:Int×Int):(b.put s).l.length≤8193:=by
 unfold Bk.put;split
 ·exact h.a
 · rename_i e;have:=h.n (by simpa using e);show(b.l++[s]).length≤_;rw[abC,aci];omega
theorem Bk.JB{b:Bk}(h:b.ok)(s:Int×Int):(b.add s).ok:=by
 unfold Bk.add;split
 ·exact Bk.TN (Bk.xf h s)
 · rename_i e;exact⟨Bk.xf h s,λ_=>by omega⟩
structure eE(H:Z)(id:Nat)(F:I)(b:Bk):Prop where
 a:At H id (.row [F,.bool b.full])
 l:cK H 2 F b.l.length (b.l.flatMap av)
 d:bS F≠some id
def fQ(id:Nat)(F:I)(H H':Z):Prop:=H.n≤H'.n∧∀i o,i≠id→bS F≠some i→At H i o→At H' i o
def NB(H:Z)(F a:I):Prop:=bS a=bS F∨∃j,H.n≤j∧bS a=some j
theorem fQ.refl(id:Nat)(F:I)(H:Z):fQ id F H H:=⟨sl _,λ_ _ _ _ h=>h⟩
theorem NB.ne{H:Z}{F a:I}{i:Nat}(h:NB H F a)(hi:i<H.n)(k:bS F≠some i):bS a≠some i:=by
 rcases h with h|⟨j,b,h⟩
 ·rw[h];exact k
 ·rw[h];intro e;cases e;omega
theorem fQ.trans{id:Nat}{F d:I}{a b c:Z}(h:fQ id F a b)(n:NB a F d)(k:fQ id d b c):fQ id F a c:=⟨xl h.1 k.1,λi o hi e f=>k.2 i o hi (n.ne f.1 e) (h.2 i o hi e f)⟩
theorem NB.trans{F d e:I}{a b:Z}(h:NB a F d)(hn:a.n≤b.n)(k:NB b d e):NB a F e:=by
 rcases k with k|⟨j,c,k⟩
 · rcases h with h|⟨j,c,h⟩
   ·exact .inl (k.trans h)
   ·exact .inr ⟨j,c,k.trans h⟩
 ·exact .inr ⟨j,xl hn c,k⟩
theorem eE.mZ{H:Z}{id:Nat}{F:I}{b:Bk}(h:eE H id F b):O H 1 false (.ptr id 0)=some F:=by rw[h.a.load];rfl
theorem eE.ld1{H:Z}{id:Nat}{F:I}{b:Bk}(h:eE H id F b):O H 1 false (.ptr id 1)=some (.bool b.full):=by rw[h.a.load];rfl
theorem iY(i k:Nat):W k (.ptr i 0)=some (.ptr i k):=by simp[W]
section
variable{C:Ctx}(aj:bN C)(hT:Cl (af C) S.bu)(hS:nf (af C)){H:Z}{Q:ad}{id:Nat}{F:I}{b:Bk}
include aj hT hS
theorem JC(h:eE H id F b)(hb:b.l.length≤8193)(hQ:∀w H',H'.n=H.n→fQ id F H H'→bS w=bS F→eE H' id w b.tidy→Q (.aq []) H'):af C 58 [.ptr id 0] H Q:=by
 refine S.Pg hT ?_;unfold S.f58;simp only[aZ,iY,h.mZ,T];have x:=xp (ef b.l);rw[nT]at x;have tail:∀(c:I)(g:Z),g.n=H.n→fQ id F H g→bS c=bS F→At g id (.row [F,.bool b.full])→cK g 2 c (cy (ef b.l)).length ((cy (ef b.l)).flatMap av) →
   Do (Y g 1 (.ptr id 0) c) λq=>Do (O q 1 false (.ptr id 1)) λD=>aQ D false (Do (O q 1 false (.ptr id 0)) λE=>Do (bp false E) λG=>Do (M .gtr G (.int .i64 4096)) λJ=>Do (Y q 1 (.ptr id 1) J) λs=>Q (.aq []) s) (Do (Y q 1 (.ptr id 1) (.bool true)) λK=>Q (.aq []) K) False:=by
  intro c g hn hk r ha hl;obtain⟨n1,n2,n3⟩:=hl.known;have t:bS c≠some id:=by rw[r];exact h.d
  rw[ha.st1 (by show 0<2;decide) ⟨n1,n2,n3⟩];have a3:=ha.set (.row ([F,.bool b.full].set 0 c));have l3:=hl.set t (.row ([F,.bool b.full].set 0 c));have L:fQ id F H (g.set id (.row ([F,.bool b.full].set 0 c))):=⟨by show H.n≤g.n;omega,λi o hi k f=>(hk.2 i o hi k f).bZ hi _⟩
  simp only[T];generalize N:g.set id (.row ([F,.bool b.full].set 0 c))=p at *;have P:p.n=H.n:=by rw[←N];exact hn
  have a3:At p id (.row [c,.bool b.full]):=a3;have e1:O p 1 false (.ptr id 1)=some (.bool b.full):=by rw[a3.load];rfl
  have e0:O p 1 false (.ptr id 0)=some c:=by rw[a3.load];rfl
  have fin:∀v:Bool,(b.full||decide ((cy (ef b.l)).length>4096))=v→Do (Y p 1 (.ptr id 1) (.bool v)) λs=>Q (.aq []) s:=by intro v hv;rw[a3.st1 (by show 1<2;decide) ⟨rfl,rfl,rfl⟩];simp only[T];refine hQ c _ P ⟨by show H.n≤p.n;omega,λi o hi k f=>(L.2 i o hi k f).bZ hi _⟩ r ⟨?_,l3.set t _,t⟩;have:b.tidy.full=v:=hv;rw[this];exact a3.set _
  simp only[e1,e0,l3.len,T,ej];cases hf:b.full with
  |true=>simp only[cP,cv,a_];exact fin true (by rw[hf];rfl)
  | false=>simp only[cv,ZP,bR];refine fin _ ?_;rw[hf,aac];apply decide_eq_decide.2;omega
 rcases h.l.2 with⟨tk,ht,hz,rfl⟩|⟨j,cs,m,rfl,y,X,R,U⟩
 · refine hS.none ?_;have V:b.l=[]:=acH hz;simp only[h.mZ,T];refine S.Hk hT ?_;unfold S.f93;simp only[show bp false (.ak tk 0 [])=some (.int .i64 0)from rfl,T,bD,aD];rw[kG];have e:cy (ef b.l)=[]:=acH (by omega);refine tail _ H rfl (fQ.refl _ _ _) rfl h.a ?_;rw[e];have:=h.l;rw[V]at this;exact this
 · have z:j≠id:=λe=>h.d (by rw[e];rfl);refine hS.row y U (by omega) ?_;have r1:=y.set (.row ((ef b.l).flatMap av++cs.drop (b.l.length*2)));have a1:=h.a.bZ (λe=>z e.symm) (.row ((ef b.l).flatMap av++cs.drop (b.l.length*2)));have k1:fQ id (.row j 0 b.l.length 2) H (H.set j (.row ((ef b.l).flatMap av++cs.drop (b.l.length*2)))):=⟨sl _,λi o hi k f=>f.bZ (λe=>k (by rw[e];rfl)) _⟩
   have e0:O (H.set j (.row ((ef b.l).flatMap av++cs.drop (b.l.length*2)))) 1 false (.ptr id 0)=some (.row j 0 b.l.length 2):=by rw[a1.load];rfl
   simp only[e0,T];have A:(H.set j (.row ((ef b.l).flatMap av++cs.drop (b.l.length*2)))).n=H.n:=rfl;generalize H.set j (.row ((ef b.l).flatMap av++cs.drop (b.l.length*2)))=H1 at *;rw[←nT b.l];refine TI aj hT (by rw[nT];omega) r1 λa H2 f B u hle r=>?_;refine tail _ H2 (f.1.trans A) ⟨by rw[f.1,A];exact sl _,λi o hi k W=>f.2 i o (λe=>k (by rw[e];rfl)) (k1.2 i o hi k W)⟩ rfl (f.2 _ _ (λe=>z e.symm) a1) ⟨by rw[kh],.inr ⟨j,_,m,rfl,r,?_,?_,?_⟩⟩
   · have x:cs.length-b.l.length*2+b.l.length*2=cs.length:=by
       have:=Za 2 R;omega
     rw[abC,kh,abM,B,nT];omega
   ·rw[nT]at hle;omega
   · rw [←u];have:(a.flatMap av++cs.drop (b.l.length*2)).take ((cy (ef b.l)).length*2)=(a.take (cy (ef b.l)).length).flatMap av:=by
      rw[abF (by rw[kh,B];omega),show a.flatMap av=(a.take (cy (ef b.l)).length).flatMap av++(a.drop (cy (ef b.l)).length).flatMap av by rw[←acB,acJ],abF (by rw[kh,abX];omega),abG (by rw[kh,abX];omega)]
     rw[u,this,u]
theorem JD(h:eE H id F b)(hb:b.ok)(s:Int×Int)(hQ:∀p H',fQ id F H H'→NB H F p→eE H' id p (b.add s)→(b.add s).ok→Q (.aq []) H'):af C 87 [.ptr id 0,.agg (av s)] H Q:=by
 refine S.Pv hT ?_;unfold S.f87;rw[show aO H false 2 (.agg (av s))=some (.ae (av s),H)from rfl];have f:=Bk.JB hb s;have t:=Bk.xf hb s;simp only[aR,aZ,iY,h.mZ,h.ld1,T,ec,aD,show O H 2 true (.ae (av s))=some (.agg (av s))from rfl];have k1:∀(g:I)(H1:Z),fQ id F H H1→NB H F g→eE H1 id g (b.put s)→S.u3 (af C) (.ptr id 0) Q [] H1:=by
  intro g H1 hk hn h1;unfold S.u3;simp only[aZ,iY,h1.mZ,h1.l.len,T,ej,aD];unfold Bk.add at hQ f;apply aI<;>intro e
  · have k:(b.put s).l.length>8192:=by
      have:(((b.put s).l.length:Nat):Int)>8192:=by simpa using e
      omega
    rw[aa k]at hQ f;refine JC aj hT hS h1 t λu H2 n2 v w x=>?_;exact hQ u H2 (hk.trans hn v) (hn.trans hk.1 (.inl w)) x f
  · have k:¬(b.put s).l.length>8192:=by
      have:¬(((b.put s).l.length:Nat):Int)>8192:=by simpa using e
      omega
    rw[ab k]at hQ f;exact hQ g H1 hk hn h1 f
 apply aI<;>intro e
 · have hf:b.full=false:=by simpa using e
   have hl:=hb.n hf;rw[show dk H false 2 1 [.int .i64 0,.int .i64 0] [(0,2,.agg (av s))]=some (.ak .full 1 (av s),H)from rfl];simp only[aR];refine h.l.app (by decide) rfl rfl (by omega) (by omega) λj H1 q hn hk c=>?_;obtain⟨n1,n2,n3⟩:=q.known;have a1:=hk _ _ h.d h.a;have r:bS j≠some id:=by
    rcases c with c|c
    ·rw[c];exact h.d
    ·rw[c];intro e;cases e;exact acM _ h.a.1
   rw[a1.st1 (by show 0<2;decide) ⟨n1,n2,n3⟩];simp only[T,aT];have m:b.put s=⟨b.l++[s],false⟩:=by unfold Bk.put;rw[ab (by rw[hf];decide)]
   refine k1 j _ ⟨hn,λi o hi c y=>(hk i o c y).bZ hi _⟩ (c.imp (λe=>e) λe=>⟨_,sl _,e⟩) ?_;rw[m];refine⟨?_,?_,r⟩
   · have:=a1.set (.row ([F,.bool b.full].set 0 j));rw[hf]at this;rw[hf];exact this
   · show cK _ 2 j (b.l++[s]).length ((b.l++[s]).flatMap av);rw[abC,acB,acN];exact q.set r _
 · have hf:b.full=true:=by simpa using e
   have m:b.put s=b:=by unfold Bk.put;rw[aa hf]
   exact k1 F H (fQ.refl _ _ _) (.inl rfl) (by rw[m];exact h)
end
end Rb

namespace Rb
open Go
variable{a b n r l:Int}{R:Nat}
theorem cN(n:Nat):((n:Int)+1)=((n+1:Nat):Int):=by simp
theorem JE:∀(L:List (List UInt8×Nat)) (k:Nat) (l:List UInt8×Nat),L[k]?=some l→((L.flatMap jq).drop (k*2)).take 2=jq l
 |[],k,l,h=>by simp at h
 | x::r,0,l,h=>by simp at h;subst h;rfl
 | x::r,k+1,l,h=>by have:=JE r k l (by simpa using h);rw[show(k+1)*2=k*2+2 by omega];exact this
def EX(id:Nat)(vars:List B)(wh F:I)(H:Z)(c:LD)(w:Nat)(k:List bm)(Q:ad):Prop:=∀(r:Int)(c':LD)(H':Z),KR id H H'→bC H' id vars wh F c'→GE c c' w k→di c'.bn r→Q (.int .i64 r) H'
def EU(id:Nat)(vars:List B)(wh F:I)(H:Z)(c:LD)(w:Nat)(k:List bm)(Q:ad):Prop:=∀(c':LD)(H':Z),KR id H H'→bC H' id vars wh F c'→GE c c' w k→Q (.aq []) H'
theorem iZ{R S:Nat}{k d d2 a b c n o z r t s l:Int}(f:1≤k)(g:k≤18)(h:di R d)(i:di R d2)(ha:di R a)(hb:di R b)(hc:di R c)(hs:k<4∨13<k∨(1≤s∧s≤(S:Nat)))(hz:k<4∨7<k∨z=1∨z=2∨z=4∨z=8):iA R S ⟨k,d,d2,a,b,c,n,o,z,r,t,s,l⟩:=⟨f,g,h,i,ha,hb,hc,λe1 e=>by have e1:4≤k:=e1;have e:k≤13:=e;show 1≤s∧s≤_;omega,λe1 e=>by have e1:4≤k:=e1;have e:k≤7:=e;show z=1∨z=2∨z=4∨z=8;omega⟩
theorem kM{k d d2 a b c n o z r t s l:Int}(h:k<14∨16<k):mn ⟨k,d,d2,a,b,c,n,o,z,r,t,s,l⟩:=λe=>by have e1:14≤k:=e.1;have f:k≤16:=e.2;omega
theorem ch:di R (-1):=di.none R
theorem ju{R n:Nat}(h:n<R):di R (n:Int):=⟨by omega,by omega⟩
section
variable{C:Ctx}(aj:bN C)(hT:Cl (af C) S.bu){id:Nat}{vars:List B}{wh F:I}{c:LD}{H0 H:Z}{Q:ad}{w:Nat}
include aj hT
theorem ou(h:bC H id vars wh F c)(hb:BD c (w+1))(hQ:∀H',KR id H H'→bC H' id vars wh F {c with bn:=c.bn+1}→Q (.int .i64 (c.bn:Nat)) H'):af C 101 [.ptr id 0] H Q:=by
 have d:=hb.r;refine S.PG hT ?_;unfold S.f101;have a:Y6 .i64 ((c.bn:Int)+1)=((c.bn+1:Nat):Int):=by rw[bH,cN]
 have b:Y6 .i64 (((c.bn+1:Nat):Int)-1)=(c.bn:Int):=by rw[bH];simp
 obtain⟨H1,e1,k1,h1⟩:=h.own (k:=3) (c':={c with bn:=c.bn+1}) (n:=((c.bn+1:Nat):Int)) (.inl ⟨rfl,rfl,YB _,rfl,rfl⟩) rfl rfl rfl rfl;simp only[aZ,W,YI,T,h.uq,b4,a,e1,h1.uq,fO,b];exact hQ H1 k1 h1
theorem xq(h:bC H id vars wh F c)(hb:BD c (w+1))(hQ:∀H',KR id H H'→bC H' id vars wh F {c with labels:=c.labels+1}→Q (.int .i64 ((c.labels+1:Nat):Int)) H'):af C 158 [.ptr id 0] H Q:=by
 have b:=hb.l;refine S.Qm hT ?_;unfold S.f158;have a:Y6 .i64 ((c.labels:Int)+1)=((c.labels+1:Nat):Int):=by rw[bH,cN]
 obtain⟨H1,e1,k1,h1⟩:=h.own (k:=4) (c':={c with labels:=c.labels+1}) (n:=((c.labels+1:Nat):Int)) (.inr (.inl ⟨rfl,rfl,rfl,rfl⟩)) rfl rfl rfl rfl;simp only[aZ,W,YI,T,h.kK,b4,a,e1,h1.kK];exact hQ H1 k1 h1
theorem BO(h:bC H id vars wh F c)(hb:BD c (w+1))(n:Int)(hQ:EX id vars wh F H c 1 [] Q):af C 146 [.ptr id 0,.int .u64 n] H Q:=by refine S.Qa hT ?_;unfold S.f146;refine jL aj hT h KR.refl λj H1 k1 h1 b1 p=>?_;refine ou aj hT h1 hb λH2 k2 d=>?_;have b2:=b1.aJ k2;have e:=k1.trans k2;simp only[W,YI,T];refine b2.st d e (by decide) One.int λq f g b3 _=>?_;refine b3.st g f (by decide) One.int λr i l a _=>?_;rw[a.all];simp only[T];refine jt aj hT l (by have:=hb.A;show c.A.length≤_;omega) ⟨1,c.bn,-1,-1,-1,-1,n,0,0,0,0,0,0⟩ λm b o=>?_;rw[(a.aJ b).ld (k:=1) rfl];simp only[T];exact hQ _ _ m (i.trans b) o (GE.BM (iZ (by decide) (by decide) (ju (aaJ _)) ch ch ch ch (.inl (by decide)) (.inl (by decide))) (kM (.inl (by decide)))) (ju (aaJ _))
theorem sv(h:bC H id vars wh F c)(hb:BD c (w+1))(op:Int)(ha:di c.bn a)(f:di c.bn b)(hQ:EX id vars wh F H c 1 [] Q):af C 147 [.ptr id 0,.int .i64 op,.int .i64 a,.int .i64 b] H Q:=by refine S.Qb hT ?_;unfold S.f147;refine jL aj hT h KR.refl λj H1 k1 h1 b1 y=>?_;refine ou aj hT h1 hb λH2 k2 g=>?_;have b2:=b1.aJ k2;have i:=k1.trans k2;simp only[W,YI,T];refine b2.st g i (by decide) One.int λz l m b3 _=>?_;refine b3.st m l (by decide) One.int λB n o p _=>?_;refine p.st o n (by decide) One.int λD q r s _=>?_;refine s.st r q (by decide) One.int λE t u d _=>?_;rw[d.all];simp only[T];refine jt aj hT u (by have:=hb.A;show c.A.length≤_;omega) ⟨3,c.bn,-1,a,b,-1,0,op,0,0,0,0,0⟩ λv e x=>?_;rw[(d.aJ e).ld (k:=1) rfl];simp only[T];exact hQ _ _ v (t.trans e) x (GE.BM (iZ (by decide) (by decide) (ju (aaJ _)) ch (ha.mono (YB _)) (f.mono (YB _)) ch (.inl (by decide)) (.inl (by decide))) (kM (.inl (by decide)))) (ju (aaJ _))
theorem mq(h:bC H id vars wh F c)(hb:BD c (w+2))(op n:Int)(ha:di c.bn a)(hQ:EX id vars wh F H c 2 [] Q):af C 155 [.ptr id 0,.int .i64 op,.int .i64 a,.int .u64 n] H Q:=by
 refine S.Qj hT ?_;unfold S.f155;have k1:S.zV (af C) (.ptr id 0) (.int .i64 op) (.int .i64 a) (.int .u64 n) Q [] H:=by unfold S.zV;refine BO aj hT (w:=w+1) h hb n λr c1 H1 k1 h1 g1 r1=>?_;refine sv aj hT (w:=w) h1 (g1.bd (m:=w+1) (hb.mono (by omega))) op (ha.mono g1.r0) r1 λd c2 H2 k2 e g2 d=>?_;exact hQ _ _ _ (k1.trans k2) e (g1.trans g2) d
 have k2:∀b:Bool,S.nO (af C) (.ptr id 0) (.int .i64 op) (.int .i64 a) (.int .u64 n) Q [.bool b] H:=λb=>by unfold S.nO;simp only[aF,aD,aT];exact aI (λ_=>hQ _ _ _ KR.refl h ((GE.refl c).mono (Yt _) rfl) ha) (λ_=>k1)
 simp only[cI,T,cP,cv,aT]
 repeat' first|exact k2 _|apply aI<;>intro _
theorem sx(h:bC H id vars wh F c)(hb:BD c (w+2)){s:be}{b al:Int}(ha:di c.bn b)(hQ:EX id vars wh F H c 2 [] Q):af C 153 [.ptr id 0,.agg (s.cells++[.int .i64 b,.int .i64 al])] H Q:=by
 refine S.Qh hT ?_;unfold S.f153;have a:aO H false 8 (.agg (s.cells++[.int .i64 b,.int .i64 al]))=some (.ae (s.cells++[.int .i64 b,.int .i64 al]),H):=rfl;have d:O H 1 false (.ae [.int .i64 b,.int .i64 al])=some (.int .i64 b):=rfl;have l0:O H 1 false (.ae (s.cells++[.int .i64 b,.int .i64 al]))=some (.int .i64 s.at_):=rfl;rw[a];simp only[aR,show W 6 (.ae (s.cells++[.int .i64 b,.int .i64 al]))=some (.ae [.int .i64 b,.int .i64 al])from rfl,show W 0 (.ae (s.cells++[.int .i64 b,.int .i64 al]))=some (.ae (s.cells++[.int .i64 b,.int .i64 al]))from rfl,T,d,l0,cI,aD,j8];apply aI<;>intro _
 ·exact BO aj hT (w:=w+1) h hb _ λr c1 H1 k1 h1 g1 r1=>hQ _ _ _ k1 h1 (g1.mono (by decide) rfl) r1
 ·exact mq aj hT h hb _ _ ha hQ
theorem BP(hn:0≤n)(hQ:∀v,Q (.int .u64 v) H):af C 156 [.int .i64 n] H Q:=by refine S.Qk hT ?_;unfold S.f156;simp only[gZ,T,aD];refine aI (λ_=>hQ _) (λ_=>?_);rw[Hx _ _ _ _ hn];simp only[T,fO];exact hQ _
theorem xr(h:bC H id vars wh F c)(hb:BD c (w+1))(ha:di c.bn a)(d:di c.bn b)(hQ:EU id vars wh F H c 1 [] Q):af C 102 [.ptr id 0,.int .i64 a,.int .i64 b] H Q:=by
 refine S.PH hT ?_;unfold S.f102;refine jL aj hT h KR.refl λj H1 e h1 b1 p=>?_;simp only[W,YI,T];refine b1.st h1 e (by decide) One.int λq f g b3 _=>?_;refine b3.st g f (by decide) One.int λr i k l _=>?_;rw[l.all];simp only[T];exact jt aj hT k (by have:=hb.A;omega) ⟨2,a,-1,b,-1,-1,0,0,0,0,0,0,0⟩ λm n o=>hQ _ m (i.trans n) o (GE.add (iZ (by decide) (by decide) ha ch d ch ch (.inl (by decide)) (.inl (by decide))) (kM (.inl (by decide))))
theorem xt(h:bC H id vars wh F c)(hb:BD c (w+1))(t:Int)(hQ:∀H',KR id H H'→bC H' id vars wh F (c.add ⟨14,-1,-1,-1,-1,-1,0,0,0,0,t,0,0⟩)→Q (.aq []) H'):af C 160 [.ptr id 0,.int .i64 t] H Q:=by refine S.Qo hT ?_;unfold S.f160;refine jL aj hT h KR.refl λj H1 a h1 b1 i=>?_;simp only[W,YI,T];refine b1.st h1 a (by decide) One.int λk b d b3 _=>?_;rw[b3.all];simp only[T];exact jt aj hT d (by have:=hb.A;omega) ⟨14,-1,-1,-1,-1,-1,0,0,0,0,t,0,0⟩ λe f g=>hQ e (b.trans f) g
theorem xu(h:bC H id vars wh F c)(hb:BD c (w+1))(t:Int)(k:di c.bn r)(hQ:∀o H',KR id H H'→o.el=t→(o.kind=15∨o.kind=16)→iA c.bn c.sn o→bC H' id vars wh F (c.add o)→Q (.aq []) H'):af C 159 [.ptr id 0,.int .i64 t,.int .i64 r] H Q:=by
 refine S.Qn hT ?_;unfold S.f159;refine jL aj hT h KR.refl λj H1 i h1 b1 u=>?_;simp only[W,YI,T,d_,aD,aT];apply aI<;>intro _
 · refine b1.st h1 i (by decide) One.int λv l m b3 _=>?_;refine b3.st m l (by decide) One.int λx n p q _=>?_;unfold S.vG;simp only[W,YI,T];refine q.st p n (by decide) One.int λs a b d _=>?_;rw[d.all];simp only[T];exact jt aj hT b (by have:=hb.A;omega) ⟨16,-1,-1,r,-1,-1,0,0,0,0,t,0,0⟩ λe f g=>hQ _ e (a.trans f) rfl (.inr rfl) (iZ (by decide) (by decide) ch ch k ch ch (.inr (.inl (by decide))) (.inr (.inl (by decide)))) g
 · unfold S.vG;simp only[W,YI,T];refine b1.st h1 i (by decide) One.int λs a b d _=>?_;rw[d.all];simp only[T];exact jt aj hT b (by have:=hb.A;omega) ⟨15,-1,-1,-1,-1,-1,0,0,0,0,t,0,0⟩ λe f g=>hQ _ e (a.trans f) rfl (.inl rfl) (iZ (by decide) (by decide) ch ch ch ch ch (.inr (.inl (by decide))) (.inr (.inl (by decide)))) g
theorem JF(h:bC H id vars wh F c)(hb:BD c (w+1))(k o:Int){a1 b:I}(m:bm)(q:m.cells = .int .i64 k :: .int .i64 o :: .int .i64 c.X::[a1,b])(r:a1.scalar=true)(eK:b.scalar=true)(hQ:∀H' c',KR id H H'→bC H' id vars wh F c'→GE c c' 1 [m]→c'.bn=c.bn→c'.sn=c.sn+1→Q (.int .i64 ((c.sn+1:Nat):Int)) H'):af C 108 [.ptr id 0,.int .i64 k,.int .i64 o,.agg [a1,b]] H Q:=by
 have hs:=hb.s;refine S.PO hT ?_;unfold S.f108;obtain⟨xo,xs,a,h1,p,u⟩:=h.x;have v:O H 1 false (.ptr id 5)=some xs:=by rw[a.load];rfl
 have ha:O H 2 true (.ae [a1,b])=some (.agg [a1,b]):=rfl;rw[show aO H false 2 (.agg [a1,b])=some (.ae [a1,b],H)from rfl];simp only[aR,aZ,W,YI,T,h.ln,v,ha];rw[show bo [.int .i64 0,.int .i64 0,.int .i64 0,.str [],.ak .nil 0 []] [(0,1,.int .i64 k),(1,1,.int .i64 o),(2,1,.int .i64 c.X),(3,2,.agg [a1,b])]=some (.agg (.int .i64 k :: .int .i64 o :: .int .i64 c.X::[a1,b]))from rfl];simp only[T];rw[show dk H false 5 1 [.int .i64 0,.int .i64 0,.int .i64 0,.str [],.ak .nil 0 []] [(0,5,.agg (.int .i64 k :: .int .i64 o :: .int .i64 c.X::[a1,b]))]=some (.ak .full 1 (.int .i64 k :: .int .i64 o :: .int .i64 c.X::[a1,b]),H)from rfl];simp only[aR];refine p.IZ (by have:=a.1;omega) (m:=1) (news:= .int .i64 k :: .int .i64 o :: .int .i64 c.X::[a1,b]) rfl rfl (by show(true&&(true&&(true&&(a1.scalar&&(b.scalar&&true)))))=true;rw[r,eK];rfl) (by decide) (by omega) (by omega) λz l_ hn hk=>?_;have g:∀i ds,At H i (.row ds)→At z i (.row ds):=λi ds hi=>hk i _ hi λl cs e=>by
  subst e;obtain⟨tk,e1,_,f⟩:=p;cases e1;rcases f with⟨e,_⟩|e|⟨t,e,_,f⟩
  ·cases e
  ·cases e
  ·cases e;exact absurd (f.2.symm.trans hi.2) (by intro e;cases e)
 have a3:=g _ _ a;rw[a3.st1 (by show 5<8;decide) ⟨rfl,rfl,rfl⟩];simp only[T];have a4:=a3.set (.row ((kj vars wh xo xs F c).set 5 (.ak (.own H.n) (c.sn+1) (c.sc++(.int .i64 k :: .int .i64 o :: .int .i64 c.X::[a1,b])))));rw[a4.load,show bU ((kj vars wh xo xs F c).set 5 (.ak (.own H.n) (c.sn+1) (c.sc++(.int .i64 k :: .int .i64 o :: .int .i64 c.X::[a1,b])))) 5 1 false=some (.ak (.own H.n) (c.sn+1) (c.sc++(.int .i64 k :: .int .i64 o :: .int .i64 c.X::[a1,b])))from rfl];simp only[T,show ∀(tk:Tok)(n:Nat)(cs:List I),bp false (.ak tk n cs)=some (.int .i64 n)from λ_ _ _=>rfl];refine hQ _ {c with sn:=c.sn+1,sc:=c.sc++(.int .i64 k :: .int .i64 o :: .int .i64 c.X::[a1,b])} (KR.trans ⟨acu hn,λi ds _=>g i ds⟩ (KR.set _)) ⟨⟨xo,_,a4,?_,l_.frame λt _ _ h=>h.bZ (h.ne a3 (by intro e;cases e)) _,λt l c1 e l2 c2 f=>?_⟩,(h.l.aJ λi cs _=>g i cs).set h.su _,h.ld,h.lo⟩
  ⟨⟨[],(abK _).symm,Yt _,λ_ A=>by cases A⟩,sl _,YB _,rfl,by rw[acN,q],sl _,rfl,rfl,rfl⟩ rfl rfl
 ·exact h1.JA λt l d x y e ht=>(hk t _ ht λl1 c1 e1=>u t l d e _ _ e1).bZ (ht.ne a (by intro e;cases e)) _
 · cases f;obtain⟨tk,e1,_,j⟩:=h1;rw[e]at e1;cases e1;rcases j with⟨e,_⟩|e|⟨t,e,_,j⟩
   ·cases e
   ·cases e
   ·cases e;have:=j.1;omega
theorem sy(h:bC H id vars wh F c)(hl:c.X=l)(hb:BD c (w+1))(k o:Int)(a:k≠7)(x:aN)(hQ:∀H' c',KR id H H'→bC H' id vars wh F c'→GE c c' 1 [⟨k,o,l,x⟩]→c'.bn=c.bn→c'.sn=c.sn+1→Q (.int .i64 ((c.sn+1:Nat):Int)) H'):af C 108 [.ptr id 0,.int .i64 k,.int .i64 o,.agg x.cells] H Q:=by rw[aN.bF];exact JF aj hT h hb k o ⟨k,o,l,x⟩ (by unfold bm.cells;rw[ab a,aN.bF,hl]) rfl rfl hQ
theorem xv(h:bC H id vars wh F c)(hb:BD c w){E:List UInt8}(hn:E∈c.L.map Prod.fst)(hQ:∀r:Int,di c.bn r→Q (.int .i64 r) H):af C 103 [.ptr id 0,.str E] H Q:=by
 have y:=hb.L;refine S.PI hT ?_;unfold S.f103;have m:aO H false 1 (.str E)=some (.ae [.str E],H):=rfl;simp only[m,aR,aZ,W,YI,h.lcs,T];refine S.Qe hT ?_;unfold S.f150;simp only[h.l.len,T];have main:∀(r:List (List UInt8×Nat)) (k:Nat),c.L.drop k=r→E∈r.map Prod.fst →
   aC (S.zU (af C) F (.fn 151 [.ae [.str E]]) (.int .i64 c.L.length) (λn a=>Do (O a 1 false (.ptr id 7)) λo=>Do (aP none 2 o n) λp=>Do (W 1 p) λq=>Do (O a 1 false q) λs=>Q s a)) ([.int .i64 k],H):=by
  intro r;induction r with
  |nil=>intro k d he;simp at he
  | cons l r t=>
   intro k d he;obtain⟨hk,f,u⟩:=ed d;obtain⟨j,cs,z,g,i,v,A⟩:=h.l.addr hk;have b:=JE c.L k l f;rw[←v,List.drop_take,acr,acp (by omega)]at b;refine aC.step ?_;simp only[S.zU,aF,bD,T,aD];rw[dW];simp only[i,T,g.load];rw[show bU cs (k*2) 2 true=some (.agg (jq l)) by unfold bU;rw[cG,aa rfl,b]];simp only[T];refine⟨151,[.ae [.str E]],rfl,?_⟩;rw[qD rfl,qE rfl];show af C 151 [.agg (jq l),.ae [.str E]] H _;refine S.Qf hT ?_;unfold S.f151;have x:aO H false 2 (.agg (jq l))=some (.ae (jq l),H):=by unfold aO;rw[aa ⟨rfl,rfl⟩];rfl
   have l0:O H 1 false (.ae (acy 0 (jq l)))=some (.str l.1):=rfl;have l1:O H 1 false (.ae [.str E])=some (.str E):=rfl;simp only[x,aR,W,T,l0,l1,iU,aD];apply aI<;>intro e
   · simp only[h.lcs,T,i,W,g.load];rw [show bU cs (k*2+1) 1 false=some (.int .i64 (l.2:Nat)) by
       have:cs[k*2+1]?=some (.int .i64 (l.2:Nat)):=by rw[←XY,←List.getElem?_take_of_lt (show 1<2 by decide),b];rfl
       unfold bU;rw[cG,eM,this]]
     simp only[T];exact hQ _ (ju (h.lo l (aaH f)))
   · simp only[b4,T];rw[bH,cN];refine t (k+1) u ?_;rcases aah.1 he with he|he
     ·exact absurd (by simp[←he]) e
     ·exact he
 exact main c.L 0 rfl hn
end
end Rb

namespace Rb
open Go
def P2(r:Int):Prop:=r=1∨r=2∨r=4∨r=8∨r=16
def P8(r:Int):Prop:=r=1∨r=2∨r=4∨r=8
theorem P2.pos{r:Int}(h:P2 r):1≤r∧r≤16:=by unfold P2 at h;omega
theorem P2.half{r:Int}(h:P2 r)(a:1<r):P2 (r/2)∧r/2<r∧M .quo (.int .i64 r) (.int .i64 2)=some (.int .i64 (r/2)):=by
 rcases h with rfl|rfl|rfl|rfl|rfl
 ·omega
 all_goals exact⟨by unfold P2;omega,by omega,by rw[mc _ _ _ (by decide)];rfl⟩
theorem P2.ind{P:Int→Prop}(h:∀r,P2 r→(1<r→P (r/2))→P r):∀r,P2 r→P r:=by have a:=h 1 (.inl rfl) (λe=>absurd e (by decide));have b:=h 2 (.inr (.inl rfl)) (λ_=>a);have c:=h 4 (.inr (.inr (.inl rfl))) (λ_=>b);have d:=h 8 (.inr (.inr (.inr (.inl rfl)))) (λ_=>c);have g:=h 16 (.inr (.inr (.inr (.inr rfl)))) (λ_=>d);intro r f;rcases f with rfl|rfl|rfl|rfl|rfl<;>assumption
def en(p:Int×Int):List I:=[.int .i64 p.1,.int .i64 p.2]
def JG(x:I)(l:List (Int×Int)):Prop:=∃tk,x = .ak tk l.length (l.flatMap en)
section
variable{C:Ctx}(aj:bN C)(hT:Cl (af C) S.bu){H:Z}{Q:ad}
include aj hT
theorem BQ{n m:Int}(c:P2 m)(hQ:∀r,P2 r→r≤m→Q (.int .i64 r) H):af C 197 [.int .i64 n,.int .i64 m] H Q:=by
 refine S.QC hT ?_;unfold S.f197;have main:∀r,P2 r→(r≤m→aC (S.vW (af C) (.int .i64 n) Q) ([.int .i64 r],H)):=by
  refine P2.ind λr a d hle=>aC.step ?_;simp only[S.vW,aF,ej,T,cP,aT];have k2:∀b:Bool,(b=true→1<r)→S.vV (af C) ([.int .i64 r],H) (aC (S.vW (af C) (.int .i64 n) Q)) Q [.bool b] H:=λb hb=>by unfold S.vV;simp only[aF,aD,aT];refine aI (λe=>?_) (λ_=>hQ r a hle);unfold S.Ha;obtain⟨_,g,f⟩:=a.half (hb e);simp only[aF,f,T];exact d (hb e) (by omega)
  refine aI (λe=>?_) (λe=>k2 false (λe=>by cases e));rw[wi _ _ _ (by have:=a.pos;omega)];simp only[T,d_];exact k2 _ λ_=>by simpa using e
 exact main m c (ab_ _)
theorem TO{c len:Int}(hl:len≤16)(hQ:∀l x H',Z.Ext H H'→JG x l→(∀p∈l,P8 p.2)→l.length≤16→Q x H'):af C 216 [.agg [.int .i64 c,.int .i64 len]] H Q:=by
 refine S.QG hT ?_;unfold S.f216;have z:∀H',Z.Ext H H'→Q (.ak .nil 0 []) H':=λH' E=>hQ [] _ H' E ⟨.nil,rfl⟩ (λp hp=>by cases hp) (Yt _);have hb:aO H true 2 (.agg [.int .i64 c,.int .i64 len])=some (.ptr H.n 0,H.push (.row [.int .i64 c,.int .i64 len])):=rfl;rw[hb];simp only[aR];have k:=Z.Ext.push H (.row [.int .i64 c,.int .i64 len]);have r1:=At.new H (.row [.int .i64 c,.int .i64 len]);rw[r1.all (n:=2) rfl];simp only[T];generalize H.push (.row [.int .i64 c,.int .i64 len])=H1 at *;have l0:O H1 1 false (.ptr H.n 0)=some (.int .i64 c):=by rw[r1.load];rfl
 have l1:O H1 1 false (.ptr H.n 1)=some (.int .i64 len):=by rw[r1.load];rfl
 have loop : ∀(n:Nat)(a len:Int)(x:I)(l:List (Int×Int)) (H2:Z),len.toNat=n→Z.Ext H H2→At H2 H.n (.row [.int .i64 a,.int .i64 len])→len≤16→cC H.n H2 2 x l.length (l.flatMap en)→(∀p∈l,P8 p.2)→(l.length:Int)+len.toNat≤16→aC (S.pX (af C) (.ptr H.n 0) Q) ([x],H2):=by
  intro n;induction n using Nat.strongRecOn with
  | _ n A =>
   intro a len x l H2 hn f q ag u hp hc;have m0:O H2 1 false (.ptr H.n 0)=some (.int .i64 a):=by rw[q.load];rfl
   have m1:O H2 1 false (.ptr H.n 1)=some (.int .i64 len):=by rw[q.load];rfl
   refine aC.step ?_;simp only[S.pX,W,YI,m1,T,ej,aD,aF];apply aI<;>intro e
   · have ah:0<len:=by simpa using e
     have inner:∀r,P2 r→(r≤8→aC (S.wa (af C) (.ptr H.n 0) ([x],H2) (aC (S.pX (af C) (.ptr H.n 0) Q)) Q) ([.int .i64 r],H2)):=by
      refine P2.ind λr d B hle=>aC.step ?_;simp only[S.wa,W,YI,m0,m1,T,ej,cv,aT,aF];have v:∀b:Bool,(b=true→1<r)→(b=false→r≤len)→S.v_ (af C) (.ptr H.n 0) ([x],H2) (aC (S.pX (af C) (.ptr H.n 0) Q)) ([.int .i64 r],H2) (aC (S.wa (af C) (.ptr H.n 0) ([x],H2) (aC (S.pX (af C) (.ptr H.n 0) Q)) Q)) Q [.bool b] H2:=λb hb s=>by
       unfold S.v_;simp only[aF,aD,aT];apply aI<;>intro e
       · unfold S.Hg;obtain⟨_,ai,D⟩:=d.half (hb e);simp only[aF,D,T];exact B (hb e) (by omega)
       · have aj:=s (by simpa using e);have F:P8 r:=by unfold P2 at d;unfold P8;omega
         unfold S.Hh;simp only[aF,W,YI,m0,T];rw[show bo [.int .i64 0,.int .i64 0] [(0,1,.int .i64 a),(1,1,.int .i64 r)]=some (.agg (en (a,r)))from rfl];simp only[T];rw[show dk H2 false 2 1 [.int .i64 0,.int .i64 0] [(0,2,.agg (en (a,r)))]=some (.ak .full 1 (en (a,r)),H2)from rfl];simp only[aR];refine u.app f.1 (m:=1) (news:=en (a,r)) rfl rfl rfl (by decide) (by omega) (by omega) λG g J lf=>?_;have j:=lf.row q;have K:Z.Ext H g:=⟨xl f.1 lf.1,λi hi=>((lf.2 i (H2.o i) ⟨AH hi f.1,rfl⟩ (.inl hi)).2).trans (f.2 i hi)⟩
         have m3:O g 1 false (.ptr H.n 0)=some (.int .i64 a):=by rw[j.load];rfl
         simp only[m3,T,b4];rw[j.st1 (by show 0<2;decide) One.int];have r4:=j.set (.row ([.int .i64 a,.int .i64 len].set 0 (.int .i64 (Y6 .i64 (a+r)))));have L:=K.set (sl _) (.row ([.int .i64 a,.int .i64 len].set 0 (.int .i64 (Y6 .i64 (a+r)))));have P:=J.frame (H':=g.set H.n (.row ([.int .i64 a,.int .i64 len].set 0 (.int .i64 (Y6 .i64 (a+r)))))) (λt _ _ h=>h.bZ (h.ne j (by intro e;cases e)) _);simp only[T];generalize g.set H.n (.row ([.int .i64 a,.int .i64 len].set 0 (.int .i64 (Y6 .i64 (a+r)))))=R at *;have m4:O R 1 false (.ptr H.n 1)=some (.int .i64 len):=by rw[r4.load];rfl
         simp only[m4,T,fO];rw[wrap_i64 (n:=len-r) (by have:=d.pos;omega) (by have:=d.pos;omega),r4.st1 (by show 1<2;decide) One.int];simp only[T];refine A (len-r).toNat (by have:=d.pos;omega) (Y6 .i64 (a+r)) (len-r) G (l++[(a,r)]) _ rfl (L.set (sl _) _) (r4.set _) (by have:=d.pos;omega) ?_ (λp U=>?_) (by have:=d.pos;rw[abC,aci];omega)
         · rw[abC,acB,acN];exact P.frame λt _ _ h=>h.bZ (h.ne r4 (by intro e;cases e)) _
         · rcases aaa.1 U with h|h
           ·exact hp p h
           ·rw[acL.1 h];exact F
      apply iv<;>intro e
      · have V:r≤len:=by simpa using e
        rw[wi _ _ _ (by have:=d.pos;omega)];simp only[T,d_];refine v _ (λe1=>?_) (λ_=>V);have:=d.pos;by_cases h1:r=1
        ·subst h1;simp at e1
        ·omega
      ·exact v true (λ_=>by have:len<r:=(by simpa using e);omega) (λe=>by cases e)
     exact inner 8 (.inr (.inr (.inr (.inl rfl)))) (ab_ _)
   · obtain⟨tk,X,_⟩:=u;exact hQ l x H2 f ⟨tk,X⟩ hp (by omega)
 have Y:S.Ag (af C) (.ptr H.n 0) Q [] H1:=by
  unfold S.Ag;by_cases al:0≤len
  ·exact loop len.toNat c len _ [] H1 rfl k r1 hl (cC.nil _ _ _) (λp hp=>by cases hp) (by simp;omega)
  ·exact loop len.toNat c len _ [] H1 rfl k r1 hl (cC.nil _ _ _) (λp hp=>by cases hp) (by simp;omega)
 have w:∀b:Bool,S.wb (af C) (.ptr H.n 0) Q [.bool b] H1:=λb=>by unfold S.wb;simp only[aF,aD,aT];exact aI (λ_=>z H1 k) (λ_=>Y)
 have y:∀b:Bool,S.pY (af C) (.ptr H.n 0) Q [.bool b] H1:=λb=>by unfold S.pY;simp only[aF,cv,aT,W,YI,l0,l1,T,b4,ej];exact aI (λ_=>w _) (λ_=>w _)
 have snd:∀b:Bool,Do (cY .not (.bool b)) λaa=>aQ aa false (Do (W 1 (.ptr H.n 0)) λab=>Do (O H1 1 false ab) λac=>Do (M .gtr ac (.int .i64 64)) λad=>N (S.pY (af C) (.ptr H.n 0) Q) [ad] H1) (N (S.pY (af C) (.ptr H.n 0) Q) [.bool true] H1) False:=λb=>by simp only[ec,T,cv,W,YI,l1,ej,aT];exact aI (λ_=>y _) (λ_=>y _)
 refine S.Hl hT ?_;unfold S.f94;have s:aO H1 false 2 (.agg [.int .i64 c,.int .i64 len])=some (.ae [.int .i64 c,.int .i64 len],H1):=rfl;have s0:O H1 1 false (.ae [.int .i64 c,.int .i64 len])=some (.int .i64 c):=rfl;have s1:O H1 1 false (.ae [.int .i64 len])=some (.int .i64 len):=rfl;rw[s];simp only[aR,show W 0 (.ae [.int .i64 c,.int .i64 len])=some (.ae [.int .i64 c,.int .i64 len])from rfl,show W 1 (.ae [.int .i64 c,.int .i64 len])=some (.ae [.int .i64 len])from rfl,T,s0,s1,gZ,j7,cP,aT,S.vc,S.vb,aF]
 repeat' first|exact snd _|apply aI<;>intro _
end
end Rb
