/- A part of the proof (part 6): see the last text. -/
import Derived.Test.YtbjhdakiiedmcaaGreatDoorRb5
import Derived.Test.YtbjhdakiiedmcaaGreatDoorRb4
set_option linter.unusedVariables false
set_option linter.unusedSimpArgs false
set_option linter.unusedSectionVars false
namespace Rb
open Go
mutual
def WQ:aC→Nat
 | .mk kind line name cW order place exprs aZ bz=>(if kind=1 then 1 else 0)+(JT aZ+JT bz)
def JT:List aC→Nat
 |[]=>0
 |x::r=>WQ x+JT r
end
mutual
def LK:aC→Nat
 | .mk kind line name cW order place exprs aZ bz=>8+(Bn place+xF exprs)+(yu aZ+yu bz)
def yu:List aC→Nat
 |[]=>0
 |x::r=>LK x+yu r
end
mutual
def lnS:aC→Int
 | .mk kind line name cW order place exprs aZ bz=>GL bz (GL aZ line)
def GL:List aC→Int→Int
 |[],l=>l
 |x::r,l=>GL r (lnS x)
end
def KO(vars:List aK)(L:List (List UInt8×Nat))(ln:Int)(place:aT)(exprs:List aF)(a:Int):List dy:=th ln 1 0 0::(RZ vars L ln place a++Y6 vars L ln exprs (aR (a+uG place)))
def ax5(L:List (List UInt8×Nat))(n:Nat)(kind ln:Int)(name cW:List UInt8)(order:Int)(place:aT)(site:Int):dy:=
 if kind=1 then th ln 4 0 n else if kind=2 then th ln 4 0 (vw (-1) L name)
 else if kind=3∨kind=4∨kind=6 then⟨8,0,0,0,place,kind,order,site,ln⟩
 else if kind=5 then⟨9,0,vw (-1) L name,vw (-1) L cW,place,0,order,site,ln⟩
 else if kind=7 then⟨10,0,0,0,afM,0,order,site,ln⟩
 else th ln 13 0 0
def ifA(ln l2:Int)(p:Nat)(T:List dy)(F:Nat→List dy):List dy:=th ln 12 0 ((p+1+T.length+1:Nat):Int)::(T++(th l2 11 0 ((p+1+T.length+1+(F (p+1+T.length+1)).length:Nat):Int)::F (p+1+T.length+1)))
def whA(ln l2:Int)(p top:Nat)(T:List dy):List dy:=th ln 12 0 ((p+1+T.length+1:Nat):Int)::(T++[th l2 11 0 (top:Int)])
def scL(L:List (List UInt8×Nat))(n:Nat)(x:aC):List (List UInt8×Nat):=if x.kind=1 then L++[(x.name,n)]else L
section
variable(vars:List aK)
mutual
def Y7 : aC→Nat→Nat→List (List UInt8×Nat)→Int→List dy
 | .mk kind line name cW order place exprs aZ bz,base,n,L,a=>
  KO vars L line place exprs a ++
  (if kind=8 then ifA line (GL aZ line) (base+(KO vars L line place exprs a).length) (LB aZ (base+(KO vars L line place exprs a).length+1) n L (aR (aR (a+uG place)+vu exprs 0)))
      (fun b=>LB bz b (n+JT aZ) L (aR (aR (aR (a+uG place)+vu exprs 0)+Ce aZ 0)))
    else if kind=9 then whA line (GL aZ line) (base+(KO vars L line place exprs a).length) (base+1+(RZ vars L line place a).length) (LB aZ (base+(KO vars L line place exprs a).length+1) n L (aR (aR (a+uG place)+vu exprs 0)))
    else [ax5 L n kind line name cW order place (aR (aR (aR (a+uG place)+vu exprs 0)+1))])
def LB:List aC→Nat→Nat→List (List UInt8×Nat)→Int→List dy
 |[],base,n,L,a=>[]
 |x::r,base,n,L,a=>Y7 x base n L a++LB r (base+(Y7 x base n L a).length) (n+WQ x) (scL L n x) (aR (a+Wa x 0))
end
end
theorem anF{x:aC}(h:ly x=true):1≤x.kind∧x.kind≤10∧(¬(3≤x.kind∧x.kind≤6)→x.place.parts=[])∧(x.exprs.length:Int)=(iO x.kind).2.2.2.1∧(x.kind≠8→x.bz=[])∧(x.kind≠8→x.kind≠9→x.aZ=[]):=by
 unfold ly at h;simp only[Bool.and_eq_true,decide_eq_true_eq,Bool.or_eq_true,beq_iff_eq]at h;obtain⟨⟨⟨⟨⟨⟨⟨h1,h2⟩,_⟩,_⟩,h5⟩,h6⟩,h7⟩,h8⟩:=h;refine⟨h1,h2,fun e=>?_,h6,fun e=>?_,fun e e'=>?_⟩
 · have:(iO x.kind).2.2.1=false:=by
     unfold iO
     repeat' split
     all_goals first|rfl|(exfalso;omega)
   rw[this]at h5;rcases h5 with h5|h5
   ·cases h5
   · unfold jS at h5;simp only[Bool.and_eq_true,beq_iff_eq]at h5;exact List.length_eq_zero_iff.1 h5.2
 · have:(iO x.kind).2.2.2.2.2=false:=by
     unfold iO
     repeat' split
     all_goals first|rfl|(exfalso;omega)
   rw[this]at h8;rcases h8 with h8|h8
   ·cases h8
   ·exact List.length_eq_zero_iff.1 h8
 · have:(iO x.kind).2.2.2.2.1=false:=by
     unfold iO
     repeat' split
     all_goals first|rfl|(exfalso;omega)
   rw[this]at h7;rcases h7 with h7|h7
   ·cases h7
   ·exact List.length_eq_zero_iff.1 h7
theorem LR.take{L:List (List UInt8×Nat)}{fq:List (List UInt8×Int)}{sl:List Int}(h:LR L fq sl)(n:Nat):LR (L.take n) (fq.take n) sl:=by
 refine⟨by rw[List.map_take,List.map_take,h.nm],fun i p l hp hl=>?_,?_⟩
 · rw [List.getElem?_take]at hp hl;by_cases hi:i<n
   · rw[if_pos hi]at hp hl;exact h.vl i p l hp hl
   ·rw[if_neg hi]at hp;cases hp
 · rw[List.map_take];exact List.Sublist.nodup (List.take_sublist _ _) h.nd
theorem LR.app{L:List (List UInt8×Nat)}{fq:List (List UInt8×Int)}{sl:List Int}(h:LR L fq sl){n:Nat}(hb:∀p∈L,p.2<n)(hn:n<sl.length){x:List UInt8}(hx:x∉L.map (·.1))(v:Int):LR (L++[(x,n)]) (fq++[(x,v)]) (sl.set n v):=by
 have hlen:fq.length=L.length:=by have:=congrArg List.length h.nm;simpa using this
 refine⟨by rw[List.map_append,List.map_append,h.nm];rfl,fun i p l hp hl=>?_,?_⟩
 · by_cases hi:i<L.length
   · rw[List.getElem?_append_left hi]at hp;rw[List.getElem?_append_left (by omega)]at hl;have aO:=hb p (List.mem_of_getElem? hp);rw[List.getElem?_set,if_neg (by omega)];exact h.vl i p l hp hl
   · have ig:i=L.length:=by
       have:=(List.getElem?_eq_some_iff.1 hp).1;simp at this;omega
     subst ig;rw[List.getElem?_append_right (Nat.le_refl _),Nat.sub_self]at hp;rw[List.getElem?_append_right (by omega),←hlen,Nat.sub_self]at hl;simp at hp hl;subst hp hl;rw[List.getElem?_set,if_pos rfl,if_pos hn]
 · rw[List.map_append,List.nodup_append];refine⟨h.nd,by simp,fun a ha b iC e=>?_⟩;simp at iC;subst iC;exact hx (e▸ha)
theorem LR.put{L:List (List UInt8×Nat)}{s:RS}{sl:List Int}(h:LR L s.fq sl)(hi:(L.map (·.2)).Nodup){x:List UInt8}(hx:x∈L.map (·.1))(hb:∀p∈L,p.2<sl.length)(v:Int):∃k:Nat,vw (-1) L x=k∧k<sl.length∧LR L (s.put x v).fq (sl.set k v):=by
 obtain⟨k,i,h1,h2,h3,h4⟩:=h.get hx;have hk:k<sl.length:=hb (x,k) (List.mem_of_getElem? h3);obtain⟨l,g1,g2,g3,g4⟩:=aed h4;refine⟨k,h1,hk,?_⟩;rw[g4 v];show LR L (s.fq.set i (l.1,v)) (sl.set k v);have hlen:s.fq.length=L.length:=by have:=congrArg List.length h.nm;simpa using this
 refine⟨?_,fun j p q hp hq=>?_,h.nd⟩
 · rw [List.map_set,←h.nm];apply List.ext_getElem?;intro j;rw[List.getElem?_set];by_cases e:i=j
   · subst e;have:i<s.fq.length:=(List.getElem?_eq_some_iff.1 g1).1;rw[if_pos rfl,if_pos (by simpa using this),List.getElem?_map,g1];rfl
   ·rw[if_neg e]
 · rw [List.getElem?_set]at hq;by_cases e:i=j
   · subst e;rw[if_pos rfl]at hq;split at hq
     · cases hq;rw[h3]at hp;cases hp;rw[List.getElem?_set,if_pos rfl,if_pos hk]
     ·cases hq
   · rw [if_neg e]at hq;have bU:k≠p.2:=by
      intro ek;have p1:(L.map (·.2))[i]?=some k:=by rw[List.getElem?_map,h3];rfl
      have p2:(L.map (·.2))[j]?=some k:=by rw[List.getElem?_map,hp,ek];rfl
      have i1:=(List.getElem?_eq_some_iff.1 p1)
      have i2:=(List.getElem?_eq_some_iff.1 p2)
      obtain⟨l1,e1⟩:=i1;obtain⟨l2,e2⟩:=i2;exact e ((List.getElem_inj hi).1 (e1.trans e2.symm))
     rw[List.getElem?_set,if_neg bU];exact h.vl j p q hp hq
end Rb

namespace Rb
open Go
mutual
theorem auq:∀e:aF,LH e≤gm e.cells
 | .mk kind n name op order place kids=>by have h1:=aur place;have h2:=NJ kids;simp only[LH,aF.cells,gm,tH,yz];omega
theorem NJ:∀l:List aF,xF l≤gm (aF.all l)
 |[]=>by simp[xF,aF.all,gm]
 | e::r=>by have h1:=auq e;have h2:=NJ r;simp only[xF,aF.all,yz];omega
theorem aur:∀x:aT,Bn x≤gm x.cells
 | .mk var parts=>by have h1:=Uc parts;simp only[Bn,aT.cells,gm,tH];omega
theorem Uc:∀l:List a_,AM l≤gm (a_.all l)
 |[]=>by simp[AM,a_.all,gm]
 | e::r=>by have h1:=aus e;have h2:=Uc r;simp only[AM,a_.all,yz];omega
theorem aus:∀x:a_,LJ x≤gm x.cells
 | .mk field index=>by have h1:=NJ index;simp only[LJ,a_.cells,gm,tH];omega
end
theorem ama(x:aT):Bn x+2≤gm x.cells:=by
 cases x with
 | mk var parts=>have h1:=Uc parts;simp only[Bn,aT.cells,gm,tH];omega
mutual
theorem aut:∀x:aC,LK x≤gm x.cells
 | .mk kind line name cW order place exprs aZ bz=>by have h1:=ama place;have h2:=NJ exprs;have h3:=PV aZ;have h4:=PV bz;rw[aF.all_eq]at h2;simp only[LK,aC.cells,aQ,gm,tH,yz];omega
theorem PV:∀l:List aC,yu l≤gm (aC.all l)
 |[]=>by simp[yu,aC.all,gm]
 | e::r=>by have h1:=aut e;have h2:=PV r;simp only[yu,aC.all,yz];omega
end
theorem aaY{α:Type}{cells:α→List AV}{x:α}:∀{l:List α},x∈l→gm (cells x)≤gm (l.flatMap cells)
 | y :: r,h=>by
  rw[List.flatMap_cons,yz];rcases List.mem_cons.1 h with e|e
  ·rw[e];omega
  · have:=aaY (cells:=cells) e;omega
theorem am5{p:jT}{t:List aC}(h:t∈p.threads):yu t≤gm p.cells:=by have h1:=PV t;have h2:=aaY (cells:=oW) h;rw[aC.all_eq]at h1;simp only[jT.cells,aQ,gm,tH]at h2 ⊢;simp only[oW,aQ,gm,tH]at h2;omega
end Rb

namespace Rb
open Go
def bD(n step:Int):Int:=(n+step-1)/step*step
theorem Af{n step:Int}(h:0<step):bD n step%step=0:=by unfold bD;exact Int.mul_emod_left _ _
theorem lv{n step:Int}(h0:0<step):n≤bD n step∧bD n step≤n+step-1:=by unfold bD;have h1:=Int.emod_add_mul_ediv (n+step-1) step;have h2:=Int.emod_nonneg (n+step-1) (Int.ne_of_gt h0);have h3:=Int.emod_lt_of_pos (n+step-1) h0;rw[Int.mul_comm]at h1;omega
theorem Ay{n step:Int}(h0:0≤n)(h1:n≤1000000000)(h2:0<step)(h3:step≤1000000):dX n step=bD n step:=by have hb:=lv (n:=n) h2;unfold dX;rw[wrap_i64 (n:=n+step) (by omega) (by omega),wrap_i64 (n:=n+step-1) (by omega) (by omega)];rw[Int.tdiv_eq_ediv_of_nonneg (by omega)];have hq:0≤(n+step-1)/step:=Int.ediv_nonneg (by omega) (by omega);have Dt:(n+step-1)/step≤n+step-1:=Int.ediv_le_self _ (by omega);rw[wrap_i64 (n:=(n+step-1)/step) (by omega) (by omega)];show IntKind.wrap .i64 (bD n step)=_;exact wrap_i64 (by omega) (by omega)
theorem ZT{packed:Bool}:∀{l:List aP}{seen:List (List UInt8)},kU packed seen l=0→∀f∈l,(f.bits=true→0≤f.width∧f.width≤8*f.type.size∧packed=false)∧(f.bits=false→f.width=0)
 |[],_,_,f,hf=>by cases hf
 | g :: r, seen, h,f,hf=>by
  simp only[kU]at h;have h0:mT packed seen g=0:=by
   by_cases hz:mT packed seen g=0
   ·exact hz
   ·rw[if_pos hz]at h;exact absurd h hz
  rw[if_neg (by simpa using h0)]at h;rcases List.mem_cons.1 hf with rfl|hf
  · rw [wY] at h0;split at h0
    ·cases h0
    · split at h0
      ·cases h0
      · split at h0
        ·rename_i hz;exact absurd h0 hz
        · split at h0
          ·cases h0
          · rename_i h8;split at h0
            ·cases h0
            · rename_i h9;refine⟨fun hb=>?_,fun hb=>?_⟩
              · have a1:¬f.width<0:=fun q=>h9 ⟨hb,.inl q⟩;have a2:¬8*f.type.size<f.width:=fun q=>h9 ⟨hb,.inr (.inl q)⟩;refine⟨by omega,by omega,?_⟩;cases packed
                ·rfl
                ·exact absurd (.inr ⟨hb,.inr rfl⟩) h8
              · by_cases hw:f.width=0
                ·exact hw
                ·exact absurd (.inl ⟨hb,hw⟩) h8
  ·exact ZT h f hf
structure so(p:PL)(n:Nat):Prop where
 b0:0≤p.bit
 b1:p.bit≤n*600000
 s0:0≤p.size
 s1:p.size≤n*75000
 a0:1≤p.align
 a1:p.align≤16
def PK(packed:Bool)(kind:Int)(p:PL)(f:aP)(g:Int×Int):PL:=
 let b0:=if kind=4 then 0 else p.bit
 let w:=jV packed f g.2;let r:Int×ec:=
  if f.bits=true then
   if f.width=0 then(bD b0 (8*f.type.size),⟨bD b0 (8*f.type.size)/8,0,1,true,bD b0 (8*f.type.size)%8,0⟩)
   else
    let b:=if b0/(8*f.type.size)≠(b0+f.width-1)/(8*f.type.size)then bD b0 (8*f.type.size)else b0
    (b+f.width,⟨b/8,(b+f.width-1)/8-b/8+1,1,true,b%8,f.width⟩)
  else(8*(bD (bD b0 8/8) w+g.1),⟨bD (bD b0 8/8) w,g.1,f.type.kind,false,0,0⟩)
 ⟨max p.size (bD r.1 8/8),max p.align w,p.gS++[r.2],r.1⟩
theorem aa5{packed:Bool}{kind:Int}{p:PL}{n:Nat}(hn:n≤32)(hp:so p n){f:aP}{g:Int×Int}(g0:0≤g.1)(g1:g.1≤65536)(a0:1≤g.2)(a1:g.2≤16)(hb:f.bits=true→1≤f.type.size∧f.type.size≤8∧0≤f.width∧f.width≤8*f.type.size) :
  o_ packed kind p f g=PK packed kind p f g∧so (o_ packed kind p f g) (n+1):=by
 obtain⟨b0,b1,s0,s1,Rd,al1⟩:=hp;have hB:∃b,(if kind=4 then(0:Int)else p.bit)=b∧0≤b∧b≤n*600000:=by
  split
  ·exact⟨0,rfl,Int.le_refl _,by omega⟩
  ·exact⟨p.bit,rfl,b0,b1⟩
 obtain⟨b,eb,c0,c1⟩:=hB;have hW:∃w,jV packed f g.2=w∧1≤w∧w≤16:=by
  unfold jV;split
  ·exact⟨1,rfl,by omega,by omega⟩
  · split
    ·rename_i h;have:=hb h;exact⟨_,rfl,by omega,by omega⟩
    ·exact⟨_,rfl,a0,a1⟩
 obtain⟨w,ew,w0,w1⟩:=hW;unfold o_ PK;dsimp only;rw[eb,ew];have size:∀x:Int,0≤x→x≤(n+1)*600000→aR ((dX x 8).tdiv 8)=bD x 8/8∧bD x 8/8≤(n+1)*75000∧0≤bD x 8/8:=by intro x x0 x1;have hu:=lv (n:=x) (step:=8) (by decide);rw[Ay x0 (by omega) (by decide) (by decide),Int.tdiv_eq_ediv_of_nonneg (by omega)];have aCP:=Af (n:=x) (step:=8) (by decide);refine⟨wrap_i64 (by omega) (by omega),by omega,by omega⟩
 by_cases du:f.bits=true
 · obtain ⟨t0,t1,v0,v1⟩:=hb du;rw[if_pos du,if_pos du];have ahl:aR (8*f.type.size)=8*f.type.size:=wrap_i64 (by omega) (by omega);have hup:=lv (n:=b) (step:=8*f.type.size) (by omega);have ahm:dX b (8*f.type.size)=bD b (8*f.type.size):=Ay c0 (by omega) (by omega) (by omega);unfold xi;dsimp only;by_cases hw:f.width=0
   · rw[if_pos hw,if_pos hw];unfold xp;dsimp only;rw[ahl,ahm];obtain⟨z1,z2,z3⟩:=size (bD b (8*f.type.size)) (by omega) (by omega);rw[z1,Int.tdiv_eq_ediv_of_nonneg (a:=bD b (8*f.type.size)) (by omega),Int.tmod_eq_emod_of_nonneg (a:=bD b (8*f.type.size)) (by omega)];rw[show aR (bD b (8*f.type.size)/8)=bD b (8*f.type.size)/8 from wrap_i64 (by omega) (by omega)];exact⟨rfl,by show 0≤bD b (8*f.type.size);omega,by show bD b (8*f.type.size)≤_;push_cast;omega,by show 0≤max _ _;omega,by show max _ _≤_;push_cast;omega,by show 1≤max _ _;omega,by show max _ _≤_;omega⟩
   · rw [if_neg hw,if_neg hw];unfold xp;dsimp only;have hbo:ph {p with align:=max p.align w,bit:=b} f=if b/(8*f.type.size)≠(b+f.width-1)/(8*f.type.size)then bD b (8*f.type.size)else b:=by
      unfold ph;dsimp only;rw[ahl,show aR (b+f.width)=b+f.width from wrap_i64 (by omega) (by omega),show aR (b+f.width-1)=b+f.width-1 from wrap_i64 (by omega) (by omega),Int.tdiv_eq_ediv_of_nonneg c0,Int.tdiv_eq_ediv_of_nonneg (by omega),ahm];have q1:0≤b/(8*f.type.size):=Int.ediv_nonneg c0 (by omega);have q2:b/(8*f.type.size)≤b:=Int.ediv_le_self _ c0;have q3:0≤(b+f.width-1)/(8*f.type.size):=Int.ediv_nonneg (by omega) (by omega);have q4:(b+f.width-1)/(8*f.type.size)≤b+f.width-1:=Int.ediv_le_self _ (by omega);rw[show aR (b/(8*f.type.size))=b/(8*f.type.size)from wrap_i64 (by omega) (by omega),show aR ((b+f.width-1)/(8*f.type.size))=(b+f.width-1)/(8*f.type.size)from wrap_i64 (by omega) (by omega)]
     rw[hbo];have nE:∃x,(if b/(8*f.type.size)≠(b+f.width-1)/(8*f.type.size)then bD b (8*f.type.size)else b)=x∧0≤x∧x≤b+64:=by
      split
      ·exact⟨_,rfl,by omega,by omega⟩
      ·exact⟨_,rfl,c0,by omega⟩
     obtain⟨x,ex,x0,x1⟩:=nE;rw[ex];rw[show aR (x+f.width)=x+f.width from wrap_i64 (by omega) (by omega),show aR (x+f.width-1)=x+f.width-1 from wrap_i64 (by omega) (by omega)];obtain⟨z1,z2,z3⟩:=size (x+f.width) (by omega) (by omega);rw[z1,Int.tdiv_eq_ediv_of_nonneg x0,Int.tdiv_eq_ediv_of_nonneg (by omega),Int.tmod_eq_emod_of_nonneg x0];rw[show aR (x/8)=x/8 from wrap_i64 (by omega) (by omega),show aR ((x+f.width-1)/8)=(x+f.width-1)/8 from wrap_i64 (by omega) (by omega),show aR ((x+f.width-1)/8-x/8)=(x+f.width-1)/8-x/8 from wrap_i64 (by omega) (by omega),show aR ((x+f.width-1)/8-x/8+1)=(x+f.width-1)/8-x/8+1 from wrap_i64 (by omega) (by omega)];exact⟨rfl,by show 0≤x+f.width;omega,by show x+f.width≤_;push_cast;omega,by show 0≤max _ _;omega,by show max _ _≤_;push_cast;omega,by show 1≤max _ _;omega,by show max _ _≤_;omega⟩
 · rw[if_neg du,if_neg du];unfold xp PQ;dsimp only;have hu8:=lv (n:=b) (step:=8) (by decide);have hm8:=Af (n:=b) (step:=8) (by decide);rw[Ay c0 (by omega) (by decide) (by decide),Int.tdiv_eq_ediv_of_nonneg (a:=bD b 8) (by omega)];rw[show aR (bD b 8/8)=bD b 8/8 from wrap_i64 (by omega) (by omega)];have hw8:=lv (n:=bD b 8/8) (step:=w) (by omega);rw[Ay (n:=bD b 8/8) (by omega) (by omega) (by omega) (by omega)];rw[show aR (bD (bD b 8/8) w+g.1)=bD (bD b 8/8) w+g.1 from wrap_i64 (by omega) (by omega),show aR (8*(bD (bD b 8/8) w+g.1))=8*(bD (bD b 8/8) w+g.1)from wrap_i64 (by omega) (by omega)];obtain⟨z1,z2,z3⟩:=size (8*(bD (bD b 8/8) w+g.1)) (by omega) (by omega);rw[z1];exact⟨rfl,by show 0≤8*_;omega,by show 8*(bD (bD b 8/8) w+g.1)≤_;push_cast;omega,by show 0≤max _ _;omega,by show max _ _≤_;push_cast;omega,by show 1≤max _ _;omega,by show max _ _≤_;omega⟩
end Rb

namespace Rb
open Go
theorem VS{b w:Int}(hw:0<w):bD b (8*w)=8*bD (bD b 8/8) w:=by
 unfold bD;have e1:(b+8-1)/8*8/8=(b+8-1)/8:=Int.mul_ediv_cancel _ (by decide);have e2:(b+8-1)/8+w-1=(b+8*w-1)/8:=by
  have:b+8*w-1=(b+8-1)+8*(w-1):=by omega
  rw[this,Int.add_mul_ediv_left _ _ (by decide)];omega
 rw[e1,e2,Int.ediv_ediv_of_nonneg (by decide)];rw[Int.mul_left_comm]
theorem NN(b:Int):bD b 1=b:=by unfold bD;simp
def i0(packed:Bool)(kind:Int)(bit:Int)(f:aP)(g:Int×Int):Int×Int×Int:=
 let b0:=if kind=4 then 0 else bit
 if f.bits=true then
  (bD b0 (if f.width=0∨b0%(8*f.type.size)+f.width>8*f.type.size then 8*f.type.size else 1),f.width,if packed=true∨f.width=0 then 1 else g.2)
 else(bD b0 (if packed=true then 8 else 8*g.2),8*g.1,if packed=true then 1 else g.2)
def Cj(f:aP)(x:Int×Int):ec:=if f.bits=true then⟨x.1/8,if x.2>0 then(x.1+x.2-1)/8-x.1/8+1 else 0,1,true,x.1%8,x.2⟩else⟨x.1/8,x.2/8,f.type.kind,false,0,0⟩
theorem am8{b n u:Int}(hb:0≤b)(hn:1≤n)(hu:n≤u):b/u≠(b+n-1)/u↔b%u+n>u:=by
 have RJ:0<u:=by omega
 have h1:=Int.emod_add_mul_ediv b u;have h2:=Int.emod_nonneg b (Int.ne_of_gt RJ);have h3:=Int.emod_lt_of_pos b RJ;have e:b+n-1=(b%u+n-1)+u*(b/u):=by omega
 rw[e,Int.add_mul_ediv_left _ _ (Int.ne_of_gt RJ)];constructor
 · intro h;apply Classical.byContradiction;intro hc;have:(b%u+n-1)/u=0:=Int.ediv_eq_zero_of_lt (by omega) (by omega);omega
 · intro h hc;have hz:(b%u+n-1)/u=0:=by omega
   have:=Int.emod_add_mul_ediv (b%u+n-1) u;have h5:=Int.emod_lt_of_pos (b%u+n-1) RJ;rw[hz]at this;omega
theorem ac6{packed:Bool}{kind:Int}{p:PL}{n:Nat}(hp:so p n){f:aP}{g:Int×Int}(a0:1≤g.2)(hb:f.bits=true→1≤f.type.size∧0≤f.width∧f.width≤8*f.type.size∧packed=false∧g.2=f.type.size) :
  PK packed kind p f g=⟨max p.size (bD ((i0 packed kind p.bit f g).1+(i0 packed kind p.bit f g).2.1) 8/8),max p.align (i0 packed kind p.bit f g).2.2,p.gS++[Cj f ((i0 packed kind p.bit f g).1,(i0 packed kind p.bit f g).2.1)],(i0 packed kind p.bit f g).1+(i0 packed kind p.bit f g).2.1⟩:=by
 obtain⟨b0,b1,s0,s1,Rd,al1⟩:=hp;have hB:∃b,(if kind=4 then(0:Int)else p.bit)=b∧0≤b:=by
  split
  ·exact⟨0,rfl,Int.le_refl _⟩
  ·exact⟨p.bit,rfl,b0⟩
 obtain⟨b,eb,c0⟩:=hB;unfold PK i0 Cj;dsimp only;rw[eb];by_cases du:f.bits=true
 · obtain ⟨t0,v0,v1,yj,hg⟩:=hb du;simp only[du,if_true];unfold jV;by_cases hw:f.width=0
   · simp only[hw,du,true_or,if_true,or_true,and_self,Int.add_zero];simp
   · rw[if_neg hw];have hu:=am8 (u:=8*f.type.size) c0 (show 1≤f.width by omega) v1;simp only[yj,hw,du,Bool.false_eq_true,false_or,if_false,if_true,and_false];have Cz:f.width>0:=by omega
     rw[if_pos Cz];by_cases hq:b%(8*f.type.size)+f.width>8*f.type.size
     ·rw[if_pos (hu.2 hq),if_pos hq,hg]
     ·rw[if_neg (fun z=>hq (hu.1 z)),if_neg hq,NN,hg]
 · have du:f.bits=false:=by simpa using du
   simp only[du,Bool.false_eq_true,if_false];unfold jV;simp only[du,Bool.false_eq_true,false_and,or_false,if_false];cases packed
   · simp only[Bool.false_eq_true,if_false];have h8:=VS (b:=b) (w:=g.2) (by omega);rw[h8];have d1:8*bD (bD b 8/8) g.2/8=bD (bD b 8/8) g.2:=by omega
     have d2:8*g.1/8=g.1:=by omega
     rw[d1,d2,←Int.mul_add]
   · simp only[if_true];have h8:=VS (b:=b) (w:=1) (by decide);rw[Int.mul_one]at h8;rw[h8];have d1:8*bD (bD b 8/8) 1/8=bD (bD b 8/8) 1:=by omega
     have d2:8*g.1/8=g.1:=by omega
     rw[←h8]at d1 ⊢;rw[NN]at d1 ⊢;have d3:8*(bD b 8/8)=bD b 8:=by have:=Af (n:=b) (step:=8) (by decide);omega
     rw[d2,←d3,←Int.mul_add];have d4:bD (8*(bD b 8/8)/8) 1=bD b 8/8:=by rw[NN];omega
     simp
end Rb

namespace Rb
open Go
structure AU where
 bit:Int
 end_:Int
 align:Int
 first:List Int
 bits:List Int
def QY(packed:Bool)(kind:Int)(s:AU)(f:aP)(g:Int×Int):AU:=⟨(i0 packed kind s.bit f g).1+(i0 packed kind s.bit f g).2.1,max s.end_ ((i0 packed kind s.bit f g).1+(i0 packed kind s.bit f g).2.1),max s.align (i0 packed kind s.bit f g).2.2,s.first++[(i0 packed kind s.bit f g).1],s.bits++[(i0 packed kind s.bit f g).2.1]⟩
def Qv(packed:Bool)(kind:Int)(s:AU):List aP→Option AU
 |[]=>some s
 |f::r=>if(bh f.type).2=true then Qv packed kind (QY packed kind s f (bh f.type).1) r else none
def B9:List aP→List Int→List Int→List ec
 |f::r,a::x,b::y=>Cj f (a,b)::B9 r x y
 |_,_,_=>[]
theorem aam:∀(fs:List aP)(x y:List Int)(f:aP)(a b:Int),x.length=fs.length→y.length=fs.length→B9 (fs++[f]) (x++[a]) (y++[b])=B9 fs x y++[Cj f (a,b)]
 |[],[],[],f,a,b,_,_=>rfl
 | g::r,c::x,d::y,f,a,b,h1,h2=>by simp only[List.cons_append,B9];rw[aam r x y f a b (by simpa using h1) (by simpa using h2)]
structure zq(p:PL)(s:AU)(fs:List aP):Prop where
 bit:s.bit=p.bit
 e0:0≤s.end_
 size:p.size=bD s.end_ 8/8
 align:s.align=p.align
 l1:s.first.length=fs.length
 l2:s.bits.length=fs.length
 gS:p.gS=B9 fs s.first s.bits
theorem R2(n:Int):bD n 8/8=(n+7)/8:=by unfold bD;omega
theorem abr{packed:Bool}{kind:Int}{p:PL}{s:AU}{fs:List aP}{n:Nat}(hn:n≤32)(hp:so p n)(h:zq p s fs){f:aP}{g:Int×Int}(g0:0≤g.1)(g1:g.1≤65536)(a0:1≤g.2)(a1:g.2≤16)(hb:f.bits=true→1≤f.type.size∧f.type.size≤8∧0≤f.width∧f.width≤8*f.type.size∧packed=false∧g.2=f.type.size) :
  zq (o_ packed kind p f g) (QY packed kind s f g) (fs++[f])∧so (o_ packed kind p f g) (n+1):=by
 obtain⟨e1,e2⟩:=aa5 (packed:=packed) (kind:=kind) hn hp g0 g1 a0 a1 (fun q=>⟨(hb q).1,(hb q).2.1,(hb q).2.2.1,(hb q).2.2.2.1⟩);refine⟨?_,e2⟩;have e3:=ac6 (kind:=kind) hp (f:=f) (g:=g) a0 (fun q=>⟨(hb q).1,(hb q).2.2.1,(hb q).2.2.2.1,(hb q).2.2.2.2.1,(hb q).2.2.2.2.2⟩);have e4:=e2.b0;rw[e1]at e4;rw[e1,e3];rw[e3]at e4;unfold QY;rw[h.bit];have hs:=h.size;have he:=h.e0;refine⟨rfl,?_,?_,?_,?_,?_,?_⟩
 ·show 0≤max _ _;omega
 · show max p.size _=bD (max _ _) 8/8;rw[hs,R2,R2,R2];omega
 ·show max s.align _=max p.align _;rw[h.align]
 ·show(s.first++[_]).length=(fs++[f]).length;simp[h.l1]
 ·show(s.bits++[_]).length=(fs++[f]).length;simp[h.l2]
 · show p.gS++[_]=_;rw[h.gS,aam _ _ _ _ _ _ h.l1 h.l2]
def HB(packed:Bool)(f:aP):Prop:=(f.bits=true→f.type.kind=1∧1≤f.type.size∧f.type.size≤8∧0≤f.width∧f.width≤8*f.type.size∧packed=false)
theorem Ss{packed:Bool}{l:List aP}{seen:List (List UInt8)}(h:kU packed seen l=0):∀f∈l,HB packed f:=fun f hf hb=>by obtain⟨q1,q2,q3⟩:=Ma h f hf hb;obtain⟨w1,w2,w3⟩:=(ZT h f hf).1 hb;exact⟨q1,q2,q3,w1,w2,w3⟩
def Q_(t:aE):Prop:=(bh t).2=true→0≤(bh t).1.1∧(bh t).1.1≤65536∧1≤(bh t).1.2∧(bh t).1.2≤16
theorem Ad{t:aE}(h:t.kind=1∨t.kind=2):bh t=((t.size,t.size),true):=by rw[vr,if_pos h]
theorem ac8{packed:Bool}{kind:Int}:∀{l:List aP}{p:PL}{s:AU}{fs:List aP}{n:Nat},n+l.length≤32→so p n→zq p s fs→(∀f∈l,HB packed f∧Q_ f.type) →
  (∀q,gY packed kind p l=some q→∃s',Qv packed kind s l=some s'∧zq q s' (fs++l)∧so q (n+l.length))∧(gY packed kind p l=none→Qv packed kind s l=none)
 | [],p,s,fs,n,hn,hp,h,hl=>by
  refine⟨fun q hq=>?_,fun hq=>?_⟩
  · simp only[gY,Option.some.injEq]at hq;subst hq;exact⟨s,rfl,by simpa using h,hp⟩
  ·simp only[gY]at hq;cases hq
 | f :: r,p,s,fs,n,hn,hp,h,hl=>by
  obtain⟨o1,o2⟩:=hl f (List.mem_cons_self ..);have sD:n+1+r.length≤32:=by rw[List.length_cons]at hn;omega
  simp only[gY,Qv,EL];by_cases ht:(bh f.type).2=true
  · rw [if_pos ht,if_pos ht];obtain⟨b1,b2,b3,b4⟩:=o2 ht;obtain ⟨h1,h2⟩:=abr (packed:=packed) (kind:=kind) (by omega) hp h b1 b2 b3 b4 (fun hb=>by
      obtain⟨z1,z2,z3,z4,z5,z6⟩:=o1 hb;exact⟨z2,z3,z4,z5,z6,by rw[Ad (.inl z1)]⟩)
    obtain⟨i1,i2⟩:=ac8 (kind:=kind) sD h2 h1 (fun g hg=>hl g (List.mem_cons_of_mem _ hg));refine⟨fun q hq=>?_,i2⟩;obtain⟨s',j1,j2,j3⟩:=i1 q hq;refine⟨s',j1,by simpa using j2,?_⟩;rw[List.length_cons,show n+(r.length+1)=n+1+r.length by omega];exact j3
  · rw[if_neg ht,if_neg ht];exact⟨fun q hq=>(by cases hq),fun _=>rfl⟩
theorem so.zero:so ⟨0,1,[],0⟩ 0:=⟨Int.le_refl _,by simp,Int.le_refl _,by simp,Int.le_refl _,by decide⟩
theorem zq.zero:zq ⟨0,1,[],0⟩ ⟨0,0,1,[],[]⟩ []:=⟨rfl,Int.le_refl _,by decide,rfl,rfl,rfl,rfl⟩
theorem Ub{t:aE}(h:ed t=0)(hk:t.kind=3∨t.kind=4):1≤t.fields.length∧t.fields.length≤32:=by
 rw[m9]at h;split at h
 ·cases h
 · rw[if_neg (by omega),if_neg (by omega),if_neg (by omega)]at h;split at h
   ·cases h
   ·omega
theorem Tf{t:aE}(h:ed t=0)(hk:t.kind=1∨t.kind=2):1≤t.size∧t.size≤16:=by
 rw[m9]at h;split at h
 ·cases h
 · have hp:gJ t.size 8=true∨gJ t.size 16=true:=by
     rcases hk with h1|h1
     · rw[if_pos h1]at h;split at h
       ·exact .inl ‹_›
       ·cases h
     · rw[if_neg (by omega),if_pos h1]at h;split at h
       ·exact .inr ‹_›
       ·cases h
   rcases hp with hp|hp<;>(simp[gJ]at hp;omega)
theorem aaU{t:aE}(h:ed t=0)(hk:t.kind=5):1≤t.count∧t.count≤65536:=by
 rw[m9]at h;split at h
 ·cases h
 · rw[if_neg (by omega),if_neg (by omega)]at h;split at h
   ·cases h
   ·omega
theorem VJ:∀t:aE,ed t=0→Q_ t:=by
 refine aE.ind fun t mH k_ hs=>?_;intro h;rcases DY hs with k|k|k|k
 ·have:=Tf hs (.inl k);rw[Ad (.inl k)];dsimp only;omega
 ·have:=Tf hs (.inr k);rw[Ad (.inr k)];dsimp only;omega
 · obtain⟨e,he,Bb⟩:=wZ hs k;have hc:=aaU hs k;rw[vr,if_neg (by omega),if_pos k,he]at h ⊢;simp only[ue,Bool.and_eq_true,decide_eq_true_eq]at h ⊢;obtain⟨b1,b2,b3,b4⟩:=k_ e (by rw[he];simp) Bb h.1;have hm:0≤(bh e).1.1*t.count:=Int.mul_nonneg b1 (by omega);have hm2:(bh e).1.1*t.count≤65536*65536:=Int.mul_le_mul b2 hc.2 (by omega) (by decide);have hw:aR ((bh e).1.1*t.count)=(bh e).1.1*t.count:=wrap_i64 (by omega) (by omega);have h2:aR ((bh e).1.1*t.count)≤65536:=of_decide_eq_true h.2;rw[hw]at h2 ⊢;exact⟨hm,h2,b3,b4⟩
 · have hk:t.kind=3∨t.kind=4:=k;have hl:=Ub hs hk;have mX:=SB hs hk;rw[vr,if_neg (by omega),if_neg (by omega)]at h ⊢;cases hp:gY t.packed t.kind ⟨0,1,[],0⟩ t.fields with
   |none=>rw[hp]at h;cases h
   | some p=>rw[hp]at h;dsimp only at h ⊢;obtain⟨s',j1,j2,j3⟩:=(ac8 (packed:=t.packed) (kind:=t.kind) (by omega) so.zero zq.zero (fun f hf=>⟨Ss mX f hf,mH f hf (Bv mX f hf)⟩)).1 p hp;have hu:=lv (n:=p.size) (step:=p.align) (by have:=j3.a0;omega);have Dv:=Ay (n:=p.size) (step:=p.align) j3.s0 (by have:=j3.s1;omega) (by have:=j3.a0;omega) (by have:=j3.a1;omega);rw[Dv]at h ⊢;have:=j3.s0;exact⟨by omega,by simpa using h,j3.a0,j3.a1⟩
end Rb

namespace Rb
open Go
theorem abA{b s x:Int}(hs:0<s)(hx:x%s=0)(h0:b≤x)(h1:x≤b+s-1):bD b s=x:=by
 have hu:=lv (n:=b) hs;have hm:=Af (n:=b) hs;rcases Int.le_total x (bD b s)with h|h
 · have e:(bD b s-x)%s=0:=by rw[Int.sub_emod,hx,hm];simp
   rw[Int.emod_eq_of_lt (by omega) (by omega)]at e;omega
 · have e:(x-bD b s)%s=0:=by rw[Int.sub_emod,hx,hm];simp
   rw[Int.emod_eq_of_lt (by omega) (by omega)]at e;omega
theorem Th{b s:Int}(hs:0<s)(h:b%s=0):bD b s=b:=abA hs h (Int.le_refl _) (by omega)
theorem Tg{b s:Int}(hs:0<s)(h:b%s≠0):bD (b+1) s=bD b s:=by have hu:=lv (n:=b) hs;have hm:=Af (n:=b) hs;have bU:bD b s≠b:=fun e=>h (by rw[←e];exact hm);exact abA hs hm (by omega) (by omega)
theorem cU.JD{n0 sz bytes len m:Nat}{H:AH}{x y:AV}{cells news:List AV}{K:ae}(h:cU n0 H sz x len cells)(wA:n0≤H.n)(hy:mM H sz y=some (m,news))(hn:news.length=m*sz)(hs:news.all AV.scalar=true)(hm:m≠0)
  (hb:(len+m)*bytes≤140737488355328) (hl:len+m≤9223372036854775807) (hK:∀H',cU n0 H' sz (.aq (.own H.n) (len+m) (cells++news)) (len+m) (cells++news)→H.n<H'.n→(∀i o,At H i o→(∀l c,x ≠ .aq (.own i) l c)→At H' i o)→K (.aq (.own H.n) (len+m) (cells++news)) H'):aJ (eF H false sz bytes x y) K:=by
 obtain⟨tk,rfl,hc,gD⟩:=h;have hlen:(cells++news).length=(len+m)*sz:=by simp[hc,hn,Nat.add_mul]
 have grow:∀tk:Tok,tk = .full∨(tk = .nil∧len=0)→eF H false sz bytes (.aq tk len cells) y=some (.aq (.own H.n) (len+m) (cells++news),H.push (.tok ((len+m)*sz) sz)):=by intro tk ht;simp only[eF,hy,hs,not_true_eq_false,if_false,if_neg hm];rw[if_neg (by simp only[Decidable.not_not];exact⟨hc,hb,hl⟩)];rcases ht with rfl|⟨rfl,_⟩<;>rfl
 have fresh:K (.aq (.own H.n) (len+m) (cells++news)) (H.push (.tok ((len+m)*sz) sz)):=
  hK _ ⟨_,rfl,hlen,.inr (.inr ⟨H.n,rfl,wA,At.new H _⟩)⟩ (Nat.lt_succ_self _) (fun i o h _=>h.push _)
 rcases gD with ht|ht|⟨t,rfl,h1,h2⟩
 ·exact⟨_,_,grow tk (.inr ht),fresh⟩
 ·exact⟨_,_,grow tk (.inl ht),fresh⟩
 · refine ⟨.aq (.own H.n) (len+m) (cells++news),(H.set t .gone).push (.tok ((len+m)*sz) sz),?_,hK _ ⟨_,rfl,hlen,.inr (.inr ⟨H.n,rfl,wA,At.new (H.set t .gone) _⟩)⟩ (Nat.lt_succ_self _) (fun i o hi ho=>(hi.dq (fun e=>?_) _).push _)⟩
   · simp only[eF,hy,hs,not_true_eq_false,if_false,if_neg hm];rw[if_neg (by simp only[Decidable.not_not];exact⟨hc,hb,hl⟩)];simp[h2.2]
   · subst e;exact ho _ _ rfl
def cX(sz al:Int)(o1 o2:AV)(lg:Bool):List AV:=[.int .i64 sz,.int .i64 al,o1,o2,.bool lg]
def yU(ix:AV)(l:List Int):Prop:=∃tk,ix = .aq tk l.length (l.map (AV.int .i64))
theorem yU.sc{x:AV}{l:List Int}(h:yU x l):x.scalar=true∧x.known=true∧x.cells=[x]:=by obtain⟨tk,rfl⟩:=h;exact⟨rfl,rfl,rfl⟩
theorem o3{H:AH}{i:Nat}{sz al:Int}{o1 o2:AV}{lg:Bool}(h:At H i (.row (cX sz al o1 o2 lg))) :
  J H 1 false (.ptr i 0)=some (.int .i64 sz)∧J H 1 false (.ptr i 1)=some (.int .i64 al)∧J H 1 false (.ptr i 2)=some o1∧J H 1 false (.ptr i 3)=some o2∧J H 1 false (.ptr i 4)=some (.bool lg)∧J H 5 true (.ptr i 0)=some (.agg (cX sz al o1 o2 lg)):=by
 refine⟨?_,?_,?_,?_,?_,?_⟩<;>(rw[h.load];rfl)
def P3(C:Ctx)(t:aE):Prop:=∀(H:AH)(Q:ae),(∀sz al l1 l2 o1 o2 lg H',AH.Ext H H'→yU o1 l1→yU o2 l2→((bh t).2=true→lg=false∧sz=(bh t).1.1∧al=(bh t).1.2∧(t.kind=3∨t.kind=4→qd t=B9 t.fields l1 l2∧l1.length=t.fields.length∧l2.length=t.fields.length))→((bh t).2=false→lg=true)→Q (.agg (cX sz al o1 o2 lg)) H')→au C K.f34 [.agg t.cells] H Q
end Rb

namespace Rb
open Go
section
variable{C:Ctx}(aw:dz C)(hT:Cl (au C) S.cH)
include aw hT
theorem S6{t:aE}{i:Nat}{e:aE}(h:t.elem[i]?=some e):∃p,bj none 6 (aQ aE.cells t.elem) (.int .i64 i)=some p∧∀H,J H 6 true p=some (.agg e.cells):=⟨_,d_ (List.getElem?_eq_some_iff.1 h).1,fun H=>gO aE.len (by decide) H h⟩
theorem aa3{t:aE}{i:Nat}{f:aP}(h:t.fields[i]?=some f):∃p q,bj none 9 (aQ aP.cells t.fields) (.int .i64 i)=some p∧ab 1 p=some q∧∀H,J H 6 true q=some (.agg f.type.cells):=⟨_,_,d_ (List.getElem?_eq_some_iff.1 h).1,rfl,fun H=>S7 H h⟩
theorem aqr{t:aE}(zH:t.fields.length≤9223372036854775807)(hle:t.elem.length≤9223372036854775807)(hf:∀f∈t.fields,cG (au C) K.f61 [.agg f.type.cells] (.bool (iN f.type)))(he:∀e∈t.elem,cG (au C) K.f61 [.agg e.cells] (.bool (iN e))):cG (au C) K.f61 [.agg t.cells] (.bool (iN t)):=by
 intro H Q hQ;refine S.ark hT ?_;unfold S.f61;rw[aaI]at hQ;have fields:∀(r:List aP)(k:Nat)(b:Bool),t.fields.drop k=r→(b||r.any fun f=>iN f.type)=(((t.kind==2&&decide (t.size>1))||t.elem.any iN)||t.fields.any fun f=>iN f.type)→aB (S.Pf (au C) (.av t.cells) Q) ([.bool b,.int .i64 k],H):=by
  intro r;induction r with
  | nil=>intro k b hd hb;have hle:=fe hd;refine aB.step ?_;simp only[S.Pf,dt,kV,aa,cu,aA,cv,bF,aD];rw[if_neg (by simp only[decide_eq_true_eq];omega)];rw[←hb]at hQ;simpa using hQ
  | cons f r ih=>
   intro k b hd hb;obtain⟨aO,hx,bC⟩:=eX hd;obtain⟨p,q,e1,e2,e3⟩:=aa3 aw hT hx;have hw:IntKind.wrap .i64 ((k:Int)+1)=((k+1:Nat):Int):=by rw[wrap_i64 (by omega) (by omega)];simp
   rw[List.any_cons]at hb;refine aB.step ?_;simp only[S.Pf,dt,kV,aa,cu,aA,cv,bF,aD];rw[if_pos (by simp only[decide_eq_true_eq];omega)];cases b with
   | false=>simp only[cj,if_true,e1,e2,e3,aa];refine hf f (List.mem_of_getElem? hx) _ _ ?_;simp only[aG,S.Pc,aA,cv,cp,aa,hw];exact ih (k+1) _ bC (by simpa using hb)
   | true=>simp only[cj,aG,S.Pc,aA,cv,cp,aa,hw];rw[if_neg (by decide)];exact ih (k+1) _ bC (by simpa using hb)
 have elems:∀(r:List aE)(k:Nat)(b:Bool),t.elem.drop k=r→(b||r.any iN)=((t.kind==2&&decide (t.size>1))||t.elem.any iN)→aB (S.Pg (au C) (.av t.cells) Q) ([.bool b,.int .i64 k],H):=by
  intro r;induction r with
  | nil=>intro k b hd hb;have hle:=fe hd;refine aB.step ?_;simp only[S.Pg,dt,nt,aa,cu,aA,cv,bF,aD];rw[if_neg (by simp only[decide_eq_true_eq];omega)];simp only[aG,S.ad4,aA];exact fields t.fields 0 b rfl (by rw[←hb];simp)
  | cons e r ih=>
   intro k b hd hb;obtain⟨aO,hx,bC⟩:=eX hd;obtain⟨p,e1,e3⟩:=S6 aw hT hx;have hw:IntKind.wrap .i64 ((k:Int)+1)=((k+1:Nat):Int):=by rw[wrap_i64 (by omega) (by omega)];simp
   rw[List.any_cons]at hb;refine aB.step ?_;simp only[S.Pg,dt,nt,aa,cu,aA,cv,bF,aD];rw[if_pos (by simp only[decide_eq_true_eq];omega)];cases b with
   | false=>simp only[cj,if_true,e1,e3,aa];refine he e (List.mem_of_getElem? hx) _ _ ?_;simp only[aG,S.Pb,aA,cv,cp,aa,hw];exact ih (k+1) _ bC (by simpa using hb)
   | true=>simp only[cj,aG,S.Pb,aA,cv,cp,aa,hw];rw[if_neg (by decide)];exact ih (k+1) _ bC (by simpa using hb)
 have k6:S.Pe (au C) (.av t.cells) Q [.bool (t.kind==2&&decide (t.size>1))] H:=by unfold S.Pe;simp only[aA];exact elems t.elem 0 _ rfl rfl
 simp only[lu,bw,dt,qm,aa,cn,ck,aG];refine aN (fun h=>?_) (fun h=>?_)
 · simp only[vy,aa,eY];rw[h,Bool.true_and]at k6;exact k6
 · have h:(t.kind==2)=false:=by simpa using h
   rw[h,Bool.false_and]at k6;exact k6
theorem aol:∀t:aE,t.ok→cG (au C) K.f61 [.agg t.cells] (.bool (iN t)):=by refine aE.ind fun t mH k_ ht=>?_;obtain⟨h1,h2,h3,h4⟩:=eS ht;exact aqr aw hT h1 h3 (fun f hf=>mH f hf (h2 f hf)) (fun e he=>k_ e he (h4 e he))
theorem aop{t:aE}(ht:t.ok)(zH:t.fields.length≤9223372036854775807)(hle:t.elem.length≤9223372036854775807)(hf:∀f∈t.fields,cG (au C) K.f33 [.agg f.type.cells] (.bool (jl f.type)))(he:∀e∈t.elem,cG (au C) K.f33 [.agg e.cells] (.bool (jl e))):cG (au C) K.f33 [.agg t.cells] (.bool (jl t)):=by
 intro H Q hQ;refine S.aqS hT ?_;unfold S.f33;rw[aby]at hQ;have fields:∀(r:List aP)(k:Nat)(b:Bool),t.fields.drop k=r→(b||r.any fun f=>jl f.type)=(((t.packed&&iN t)||t.elem.any jl)||t.fields.any fun f=>jl f.type)→aB (S.On (au C) (.av t.cells) Q) ([.bool b,.int .i64 k],H):=by
  intro r;induction r with
  | nil=>intro k b hd hb;have hle:=fe hd;refine aB.step ?_;simp only[S.On,dt,kV,aa,cu,aA,cv,bF,aD];rw[if_neg (by simp only[decide_eq_true_eq];omega)];rw[←hb]at hQ;simpa using hQ
  | cons f r ih=>
   intro k b hd hb;obtain⟨aO,hx,bC⟩:=eX hd;obtain⟨p,q,e1,e2,e3⟩:=aa3 aw hT hx;have hw:IntKind.wrap .i64 ((k:Int)+1)=((k+1:Nat):Int):=by rw[wrap_i64 (by omega) (by omega)];simp
   rw[List.any_cons]at hb;refine aB.step ?_;simp only[S.On,dt,kV,aa,cu,aA,cv,bF,aD];rw[if_pos (by simp only[decide_eq_true_eq];omega)];cases b with
   | false=>simp only[cj,if_true,e1,e2,e3,aa];refine hf f (List.mem_of_getElem? hx) _ _ ?_;simp only[aG,S.Ol,aA,cv,cp,aa,hw];exact ih (k+1) _ bC (by simpa using hb)
   | true=>simp only[cj,aG,S.Ol,aA,cv,cp,aa,hw];rw[if_neg (by decide)];exact ih (k+1) _ bC (by simpa using hb)
 have elems:∀(r:List aE)(k:Nat)(b:Bool),t.elem.drop k=r→(b||r.any jl)=((t.packed&&iN t)||t.elem.any jl)→aB (S.Oo (au C) (.av t.cells) Q) ([.bool b,.int .i64 k],H):=by
  intro r;induction r with
  | nil=>intro k b hd hb;have hle:=fe hd;refine aB.step ?_;simp only[S.Oo,dt,nt,aa,cu,aA,cv,bF,aD];rw[if_neg (by simp only[decide_eq_true_eq];omega)];simp only[aG,S.adR,aA];exact fields t.fields 0 b rfl (by rw[←hb];simp)
  | cons e r ih=>
   intro k b hd hb;obtain⟨aO,hx,bC⟩:=eX hd;obtain⟨p,e1,e3⟩:=S6 aw hT hx;have hw:IntKind.wrap .i64 ((k:Int)+1)=((k+1:Nat):Int):=by rw[wrap_i64 (by omega) (by omega)];simp
   rw[List.any_cons]at hb;refine aB.step ?_;simp only[S.Oo,dt,nt,aa,cu,aA,cv,bF,aD];rw[if_pos (by simp only[decide_eq_true_eq];omega)];cases b with
   | false=>simp only[cj,if_true,e1,e3,aa];refine he e (List.mem_of_getElem? hx) _ _ ?_;simp only[aG,S.Ok,aA,cv,cp,aa,hw];exact ih (k+1) _ bC (by simpa using hb)
   | true=>simp only[cj,aG,S.Ok,aA,cv,cp,aa,hw];rw[if_neg (by decide)];exact ih (k+1) _ bC (by simpa using hb)
 have k6:S.Om (au C) (.av t.cells) Q [.bool (t.packed&&iN t)] H:=by unfold S.Om;simp only[aA];exact elems t.elem 0 _ rfl rfl
 simp only[lu,bw,dt,xq,aa,ck,aG];refine aN (fun h=>?_) (fun h=>?_)
 · simp only[qT,aa];refine aol aw hT t ht _ _ ?_;rw[h,Bool.true_and]at k6;exact k6
 · have h:t.packed=false:=by simpa using h
   rw[h,Bool.false_and]at k6;exact k6
theorem anp:∀t:aE,t.ok→cG (au C) K.f33 [.agg t.cells] (.bool (jl t)):=by refine aE.ind fun t mH k_ ht=>?_;obtain⟨h1,h2,h3,h4⟩:=eS ht;exact aop aw hT ht h1 h3 (fun f hf=>mH f hf (h2 f hf)) (fun e he=>k_ e he (h4 e he))
end
end Rb

namespace Rb
open Go
theorem LW{sz al:Int}{o1 o2:AV}{lg:Bool}{l1 l2:List Int}(h1:yU o1 l1)(h2:yU o2 l2):(cX sz al o1 o2 lg).all AV.scalar=true:=by obtain⟨t1,rfl⟩:=h1;obtain⟨t2,rfl⟩:=h2;rfl
theorem apZ{H:AH}{i:Nat}{sz al:Int}{o1 o2:AV}{lg:Bool}(h:At H i (.row (cX sz al o1 o2 lg)))(v:Int):aH H 1 (.ptr i 0) (.int .i64 v)=some (H.set i (.row (cX v al o1 o2 lg))):=by rw[h.store,if_pos ⟨rfl,rfl,rfl,(by show 0+1≤5;decide)⟩];rfl
theorem ap0{H:AH}{i:Nat}{sz al:Int}{o1 o2:AV}{lg:Bool}(h:At H i (.row (cX sz al o1 o2 lg)))(v:Int):aH H 1 (.ptr i 1) (.int .i64 v)=some (H.set i (.row (cX sz v o1 o2 lg))):=by rw[h.store,if_pos ⟨rfl,rfl,rfl,(by show 1+1≤5;decide)⟩];rfl
theorem ap1{H:AH}{i:Nat}{sz al:Int}{o1 o2:AV}{lg:Bool}(h:At H i (.row (cX sz al o1 o2 lg)))(tk:Tok)(n:Nat)(cs:List AV):aH H 1 (.ptr i 2) (.aq tk n cs)=some (H.set i (.row (cX sz al (.aq tk n cs) o2 lg))):=by rw[h.store,if_pos ⟨rfl,rfl,rfl,(by show 2+1≤5;decide)⟩];rfl
theorem ap2{H:AH}{i:Nat}{sz al:Int}{o1 o2:AV}{lg:Bool}(h:At H i (.row (cX sz al o1 o2 lg)))(tk:Tok)(n:Nat)(cs:List AV):aH H 1 (.ptr i 3) (.aq tk n cs)=some (H.set i (.row (cX sz al o1 (.aq tk n cs) lg))):=by rw[h.store,if_pos ⟨rfl,rfl,rfl,(by show 3+1≤5;decide)⟩];rfl
theorem ap3{H:AH}{i:Nat}{sz al:Int}{o1 o2:AV}{lg:Bool}(h:At H i (.row (cX sz al o1 o2 lg)))(v:Bool):aH H 1 (.ptr i 4) (.bool v)=some (H.set i (.row (cX sz al o1 o2 v))):=by rw[h.store,if_pos ⟨rfl,rfl,rfl,(by show 4+1≤5;decide)⟩];rfl
theorem au9{H:AH}{i:Nat}{f:aP}(h:At H i (.row f.cells)):J H 6 true (.ptr i 1)=some (.agg f.type.cells):=by rw[h.load];cases f with|mk n t b w=>cases t;rfl
theorem au_{H:AH}{i:Nat}{f:aP}(h:At H i (.row f.cells)):J H 1 false (.ptr i 2)=some (.int .i64 f.type.size):=by rw[h.load];cases f with|mk n t b w=>cases t;rfl
theorem agi{H:AH}{i:Nat}{f:aP}(h:At H i (.row f.cells)):J H 1 false (.ptr i 7)=some (.bool f.bits):=by rw[h.load];cases f with|mk n t b w=>cases t;rfl
theorem ava{H:AH}{i:Nat}{f:aP}(h:At H i (.row f.cells)):J H 1 false (.ptr i 8)=some (.int .i64 f.width):=by rw[h.load];cases f with|mk n t b w=>cases t;rfl
theorem cU.yH{n0 sz len i:Nat}{H:AH}{x:AV}{cells cs:List AV}(h:cU n0 H sz x len cells)(hr:At H i (.row cs)):∀l c,x ≠ .aq (.own i) l c:=by
 intro l c e;obtain⟨tk,hx,hc,ht⟩:=h;rw[hx]at e;simp only[AV.aq.injEq]at e;rcases ht with⟨q,_⟩|q|⟨t,q,_,h3⟩
 ·rw[q]at e;cases e.1
 ·rw[q]at e;cases e.1
 · rw[q]at e;have:t=i:=by simpa using e.1
   subst this;have:=h3.2.symm.trans hr.2;cases this
theorem cU.low{n0 sz len i:Nat}{H:AH}{x:AV}{cells:List AV}(h:cU n0 H sz x len cells)(hi:i<n0):∀l c,x ≠ .aq (.own i) l c:=by
 intro l c e;obtain⟨tk,hx,hc,ht⟩:=h;rw[hx]at e;simp only[AV.aq.injEq]at e;rcases ht with⟨q,_⟩|q|⟨t,q,h2,_⟩
 ·rw[q]at e;cases e.1
 ·rw[q]at e;cases e.1
 · rw[q]at e;have:t=i:=by simpa using e.1
   omega
theorem cU.move{n0 sz len:Nat}{H H':AH}{x y:AV}{cells:List AV}(h:cU n0 H sz x len cells)(k:∀i o,At H i o→(∀l c,y ≠ .aq (.own i) l c)→At H' i o)(bU:∀i l c,y = .aq (.own i) l c→∀l' c',x ≠ .aq (.own i) l' c'):cU n0 H' sz x len cells:=by
 obtain⟨tk,hx,hc,ht⟩:=h;refine⟨tk,hx,hc,?_⟩;rcases ht with q|q|⟨t,q,h2,h3⟩
 ·exact .inl q
 ·exact .inr (.inl q)
 · refine .inr (.inr ⟨t,q,h2,k t _ h3 fun l c e=>?_⟩);exact bU t l c e _ _ (by rw[hx,q])
theorem cU.EO{n0 sz len i:Nat}{H:AH}{x:AV}{cells cs:List AV}(h:cU n0 H sz x len cells)(hr:At H i (.row cs))(o:dc):cU n0 (H.set i o) sz x len cells:=h.frame fun t a b ht=>ht.dq (fun e=>by subst e;have:=ht.2.symm.trans hr.2;cases this) _
theorem Ext.aY{H H8 H9:AH}(E:AH.Ext H H8)(hn:H8.n≤H9.n)(k:∀i o,i<H.n→At H8 i o→At H9 i o):AH.Ext H H9:=⟨Nat.le_trans E.1 hn,fun i hi=>((k i _ hi ⟨Nat.lt_of_lt_of_le hi E.1,rfl⟩).2).trans (E.2 i hi)⟩
section
variable{C:Ctx}(aw:dz C)(hT:Cl (au C) S.cH)
include aw hT
theorem aqs{t:aE}(hs:ed t=0)(hfd:∀f∈t.fields,ed f.type=0→P3 C f.type)(fA:∀e∈t.elem,ed e=0→P3 C e):P3 C t:=by
 intro H Q hQ;refine S.aqT hT ?_;unfold S.f34;simp only[lu,bw,dt,qm,aa,be,if_true,cn,aD,aG];have E1:=AH.Ext.push H (.row (cX 0 0 (.aq .nil 0 []) (.aq .nil 0 []) false));have r1:=At.new H (.row (cX 0 0 (.aq .nil 0 []) (.aq .nil 0 []) false));have n1:(H.push (.row (cX 0 0 (.aq .nil 0 []) (.aq .nil 0 []) false))).n=H.n+1:=rfl;rw[show H.push (.row [.int .i64 0,.int .i64 0,.aq .nil 0 [],.aq .nil 0 [],.bool false])=H.push (.row (cX 0 0 (.aq .nil 0 []) (.aq .nil 0 []) false))from rfl];generalize H.push (.row (cX 0 0 (.aq .nil 0 []) (.aq .nil 0 []) false))=H1 at *;have nil:yU (.aq .nil 0 []) []:=⟨.nil,rfl⟩
 have ret:∀sz al l1 l2 o1 o2 lg H5,AH.Ext H H5→At H5 H.n (.row (cX 0 0 (.aq .nil 0 []) (.aq .nil 0 []) false))→yU o1 l1→yU o2 l2→((bh t).2=true→lg=false∧sz=(bh t).1.1∧al=(bh t).1.2∧(t.kind=3∨t.kind=4→qd t=B9 t.fields l1 l2∧l1.length=t.fields.length∧l2.length=t.fields.length))→((bh t).2=false→lg=true) →
   Do (aH H5 5 (.ptr H.n 0) (.agg (cX sz al o1 o2 lg))) fun H6=>Do (J H6 5 true (.ptr H.n 0)) fun y=>Q y H6:=by
  intro sz al l1 l2 o1 o2 lg H5 E5 r5 h1 h2 hg hb;rw[r5.store,if_pos ⟨rfl,rfl,LW h1 h2,(by decide:0+5≤5)⟩];simp only[aa];have r6:At (H5.set H.n (.row (cX sz al o1 o2 lg))) H.n (.row (cX sz al o1 o2 lg)):=r5.set _;change Do (J (H5.set H.n (.row (cX sz al o1 o2 lg))) 5 true (.ptr H.n 0)) _;rw[(o3 r6).2.2.2.2.2];simp only[aa];exact hQ sz al l1 l2 o1 o2 lg _ (E5.set (Nat.le_refl _) _) h1 h2 hg hb
 have num:t.kind=1∨t.kind=2→S.HK (au C) (.av t.cells) (.ptr H.n 0) (.int .i64 t.kind) Q [.bool true] H1:=by
  intro hk;unfold S.HK;simp only[aA,aD,if_true,dt,vy,aa];rw[show bJ [.int .i64 0,.int .i64 0,.aq .nil 0 [],.aq .nil 0 [],.bool false] [(0,1,.int .i64 t.size),(1,1,.int .i64 t.size)]=some (.agg (cX t.size t.size (.aq .nil 0 []) (.aq .nil 0 []) false))from rfl];simp only[aa];refine ret _ _ [] [] _ _ _ H1 E1 r1 nil nil (fun _=>?_) (fun h=>?_)
  ·rw[Ad hk];exact⟨rfl,rfl,rfl,fun q=>by omega⟩
  ·rw[Ad hk]at h;cases h
 refine aN (fun hc=>?_) (fun hc=>?_)
 ·rw[hc];exact num (.inl (by simpa using hc))
 have k1:¬t.kind=1:=by simpa using hc
 by_cases k2:t.kind=2
 ·rw[show(t.kind==2)=true by simpa using k2];exact num (.inr k2)
 rw[show(t.kind==2)=false by simpa using k2];unfold S.HK;simp only[aA,aD,cn,aa,aG];rw[if_neg (by decide)];refine aN (fun hc=>?_) (fun hc=>?_)
 · have k5:t.kind=5:=by simpa using hc
   obtain⟨e,he,Bb⟩:=wZ hs k5;have A4:=aaU hs k5;have Be:t.elem[0]?=some e:=by rw[he];rfl
   obtain⟨p,e1,e3⟩:=S6 aw hT Be;have nC:bj none 6 (aQ aE.cells t.elem) (.int .i64 0)=some p:=e1;have pW:bh t=((aR ((bh e).1.1*t.count),(bh e).1.2),(bh e).2&&decide (aR ((bh e).1.1*t.count)≤65536)):=by rw[vr,if_neg (by omega),if_pos k5,he];rfl
   simp only[dt,nt,aa,nC,e3];refine fA e (by rw[he];simp) Bb _ _ fun sz al l1 l2 o1 o2 lg H5 E5 i1 i2 hg hb=>?_;simp only[be,if_true,bw];rw[fC H5 _ (cX sz al o1 o2 lg) 5 rfl (LW i1 i2) rfl];simp only[aa];have w6:=At.new H5 (.row (cX sz al o1 o2 lg));have r6:=(r1.ext E5).push (.row (cX sz al o1 o2 lg));have E6:=(E1.trans E5).trans (AH.Ext.push H5 (.row (cX sz al o1 o2 lg)));generalize H5.push (.row (cX sz al o1 o2 lg))=H6 at *;obtain⟨v0,v1,v2,v3,v4,v5⟩:=o3 w6;have RR:∀b:Bool,(b=true→(bh t).2=false)→(b=false→(bh t).2=true∧sz=(bh e).1.1∧al=(bh e).1.2)→S.Oq (au C) (.av t.cells) (.ptr H.n 0) (.ptr H5.n 0) Q [.bool b] H6:=by
    intro b kZ jv;unfold S.Oq;simp only[aA,aD,ab,Nat.zero_add,v1,aa];refine aN (fun h=>?_) (fun h=>?_)
    · rw[show bJ [.int .i64 0,.int .i64 0,.aq .nil 0 [],.aq .nil 0 [],.bool false] [(1,1,.int .i64 al),(4,1,.bool true)]=some (.agg (cX 0 al (.aq .nil 0 []) (.aq .nil 0 []) true))from rfl];simp only[aa];refine ret _ _ [] [] _ _ _ H6 E6 r6 nil nil (fun q=>?_) (fun _=>rfl);rw[kZ h]at q;cases q
    · obtain⟨q1,q2,q3⟩:=jv (by simpa using h);simp only[aG,S.adS,ab,Nat.zero_add,v0,v1,aa,dt,Aw,m7];rw[show bJ [.int .i64 0,.int .i64 0,.aq .nil 0 [],.aq .nil 0 [],.bool false] [(0,1,.int .i64 (IntKind.wrap .i64 (sz*t.count))),(1,1,.int .i64 al)]=some (.agg (cX (aR (sz*t.count)) al (.aq .nil 0 []) (.aq .nil 0 []) false))from rfl];simp only[aa];refine ret _ _ [] [] _ _ _ H6 E6 r6 nil nil (fun _=>?_) (fun q=>?_)
      ·rw[pW,q2,q3];exact⟨rfl,rfl,rfl,fun q=>by omega⟩
      ·rw[q1]at q;cases q
   simp only[ab,Nat.zero_add,v4,aa,cj];refine gG (fun h=>?_) (fun h=>?_)
   · cases ho:(bh e).2 with
     |false=>rw[hb ho]at h;cases h
     | true=>
      obtain⟨g1,g2,g3,_⟩:=hg ho;simp only[v0,aa,dt,Aw,m7,eY,aG];refine RR _ (fun q=>?_) (fun q=>?_)
      · have q:aR (sz*t.count)>65536:=of_decide_eq_true q;rw[pW,ho,←g2,Bool.true_and];exact decide_eq_false (by show ¬aR (sz*t.count)≤65536;omega)
      · have q:¬aR (sz*t.count)>65536:=of_decide_eq_false q;refine⟨?_,g2,g3⟩;rw[pW,ho,←g2,Bool.true_and];exact decide_eq_true (by show aR (sz*t.count)≤65536;omega)
   · refine RR true (fun _=>?_) (fun q=>by cases q);cases ho:(bh e).2 with
     |false=>rw[pW,ho];rfl
     |true=>obtain⟨g1,_⟩:=hg ho;rw[g1]at h;cases h
 have k5:¬t.kind=5:=by simpa using hc
 have hk:t.kind=3∨t.kind=4:=by have:=DY hs;omega
 have Dq:=Ub hs hk;have mX:=SB hs hk;have axc:∀p,gY t.packed t.kind ⟨0,1,[],0⟩ t.fields=some p→bh t=((dX p.size p.align,p.align),decide (dX p.size p.align≤65536)):=by intro p hp;rw[vr,if_neg (by omega),if_neg (by omega),hp]
 have axb:gY t.packed t.kind ⟨0,1,[],0⟩ t.fields=none→bh t=((0,0),false):=by intro hp;rw[vr,if_neg (by omega),if_neg (by omega),hp]
 simp only[aG,S.ab3];rw[show bJ [.int .i64 0,.int .i64 0,.aq .nil 0 [],.aq .nil 0 [],.bool false] [(1,1,.int .i64 1)]=some (.agg (cX 0 1 (.aq .nil 0 []) (.aq .nil 0 []) false))from rfl];simp only[aa,be,if_true,bw];rw[fC H1 _ (cX 0 1 (.aq .nil 0 []) (.aq .nil 0 []) false) 5 rfl rfl rfl];simp only[aa];have w2:=At.new H1 (.row (cX 0 1 (.aq .nil 0 []) (.aq .nil 0 []) false));have r2:=r1.push (.row (cX 0 1 (.aq .nil 0 []) (.aq .nil 0 []) false));have E2:=E1.trans (AH.Ext.push H1 (.row (cX 0 1 (.aq .nil 0 []) (.aq .nil 0 []) false)));generalize H1.push (.row (cX 0 1 (.aq .nil 0 []) (.aq .nil 0 []) false))=H2 at *;have main : ∀(r:List aP)(k:Nat)(p:PL)(s:AU)(o1 o2:AV)(H5:AH),t.fields.drop k=r→k≤t.fields.length→AH.Ext H H5→At H5 H.n (.row (cX 0 0 (.aq .nil 0 []) (.aq .nil 0 []) false))→At H5 H1.n (.row (cX 0 s.align o1 o2 false)) →
   cU H1.n H5 1 o1 s.first.length (s.first.map (AV.int .i64))→cU H1.n H5 1 o2 s.bits.length (s.bits.map (AV.int .i64))→(∀i l c,o1 = .aq (.own i) l c→∀l' c',o2 ≠ .aq (.own i) l' c') →
   so p k→zq p s (t.fields.take k)→gY t.packed t.kind p r=gY t.packed t.kind ⟨0,1,[],0⟩ t.fields →
   aB (S.rO (au C) (.av t.cells) (.ptr H.n 0) (.ptr H1.n 0) Q) ([.int .i64 s.bit,.int .i64 s.end_,.int .i64 k],H5):=by
  intro r;induction r with
  | nil=>
   intro k p s o1 o2 H5 hd sB E5 r5 w5 h1 h2 bU hp hr he;have hle:=fe hd;have gW:t.fields.take k=t.fields:=List.take_of_length_le hle;rw[gW]at hr;simp only[gY]at he;have pW:=axc p he.symm;refine aB.step ?_;simp only[S.rO,aA,cv,dt,kV,aa,cu,bF,aD,aG,S.ab2];rw[if_neg (by simp only[decide_eq_true_eq];omega)];have aCL:=hp.a0;have aCM:=hp.a1;have yl:=hp.s0;have ym:=hp.s1;have gN:=hr.size;have j0:=hr.e0;have eQ:=hr.align;rw[R2]at gN;have hu:=lv (n:=s.end_) (step:=8*p.align) (by omega);have hq:bD s.end_ (8*p.align)/8=bD p.size p.align:=by rw[VS (by omega),hr.size];omega
   have Dv:=Ay (n:=p.size) (step:=p.align) yl (by omega) (by omega) (by omega);obtain⟨tk1,e1,e1l,_⟩:=h1;obtain⟨LM,e2,e2l,_⟩:=h2;have ub:S.TG (au C) (.ptr H.n 0) (.ptr H1.n 0) Q [.int .i64 (bD s.end_ (8*p.align))] H5:=by
    unfold S.TG;rw[aA,wQ .i64 _ _ (by decide),Int.tdiv_eq_ediv_of_nonneg (by omega),hq];have jv:=lv (n:=p.size) (step:=p.align) (by omega);rw[wrap_i64 (n:=bD p.size p.align) (by omega) (by omega)];simp only[aa,ab,Nat.zero_add];rw[apZ w5];simp only[aa];have w6:At (H5.set H1.n (.row (cX (bD p.size p.align) s.align o1 o2 false))) H1.n (.row (cX (bD p.size p.align) s.align o1 o2 false)):=w5.set _;rw[(o3 w6).1];simp only[aa,eY];rw[ap3 w6];simp only[aa];have w7:At ((H5.set H1.n (.row (cX (bD p.size p.align) s.align o1 o2 false))).set H1.n (.row (cX (bD p.size p.align) s.align o1 o2 (decide (bD p.size p.align>65536))))) H1.n (.row (cX (bD p.size p.align) s.align o1 o2 (decide (bD p.size p.align>65536)))):=w6.set _;rw[(o3 w7).2.2.2.2.2];simp only[aa];refine ret _ _ s.first s.bits _ _ _ _ ((E5.set (by omega) _).set (by omega) _) ((r5.dq (by omega) _).dq (by omega) _) ⟨tk1,e1⟩ ⟨LM,e2⟩ (fun q=>?_) (fun q=>?_)
    · rw[pW,Dv]at q ⊢;have q:bD p.size p.align≤65536:=of_decide_eq_true q;refine⟨decide_eq_false (by omega),rfl,eQ,fun _=>⟨?_,hr.l1,hr.l2⟩⟩;rw[←hr.gS];unfold qd;rw[←he]
    · rw[pW,Dv]at q;have q:¬bD p.size p.align≤65536:=of_decide_eq_false q;exact decide_eq_true (by omega)
   have l14:∀(m:Nat)(b:Int),0≤b→bD b (8*p.align)=bD s.end_ (8*p.align)→(bD s.end_ (8*p.align)-b).toNat=m→aB (S.Nl (au C) (.ptr H.n 0) (.ptr H1.n 0) Q) ([.int .i64 b],H5):=by
    intro m;induction m with
    | zero=>
     intro b rC kZ hm;have hb:=lv (n:=b) (step:=8*p.align) (by omega);have KN:=Af (n:=b) (step:=8*p.align) (by omega);have Gk:b=bD s.end_ (8*p.align):=by omega
     refine aB.step ?_;simp only[S.Nl,aA,ab,Nat.zero_add,(o3 w5).2.1,aa,m7,eQ];rw[wrap_i64 (by omega) (by omega),vi .i64 _ _ (by omega),Int.tmod_eq_emod_of_nonneg rC];have hz:b%(8*p.align)=0:=by rw[Gk,←kZ];exact KN
     simp only[aa,eK,hz,aD];rw[if_neg (by decide),Gk];exact ub
    | succ m ih=>
     intro b rC kZ hm;have hb:=lv (n:=b) (step:=8*p.align) (by omega);refine aB.step ?_;simp only[S.Nl,aA,ab,Nat.zero_add,(o3 w5).2.1,aa,m7,eQ];rw[wrap_i64 (by omega) (by omega),vi .i64 _ _ (by omega),Int.tmod_eq_emod_of_nonneg rC];have hz:b%(8*p.align)≠0:=fun q=>by have:=Th (b:=b) (s:=8*p.align) (by omega) q;omega
     simp only[aa,eK,aD];rw[if_pos (by simpa using hz)];simp only[cp,aa];rw[wrap_i64 (by omega) (by omega)];exact ih (b+1) (by omega) (by rw[Tg (by omega) hz];exact kZ) (by omega)
   exact l14 _ s.end_ j0 rfl rfl
  | cons f r ih=>
   intro k p s o1 o2 H5 hd sB E5 r5 w5 h1 h2 bU hp hr he;obtain⟨aO,hx,bC⟩:=eX hd;have gI:=List.mem_of_getElem? hx;have jx:=Ss mX f gI;have hob:=VJ f.type (Bv mX f gI);have axo:IntKind.wrap .i64 ((k:Int)+1)=((k+1:Nat):Int):=by rw[wrap_i64 (by omega) (by omega)];simp
   have gD:t.fields.take (k+1)=t.fields.take k++[f]:=by rw[List.take_add_one,hx];rfl
   have n5:=w5.1;simp only[gY,EL]at he;refine aB.step ?_;simp only[S.rO,aA,cv,dt,kV,aa,cu,bF,aD];rw[if_pos (by simp only[decide_eq_true_eq];omega),d_ aO];simp only[aa];rw[gO aP.len (by decide) _ hx];simp only[aa,bw,be,if_true];rw[fC _ _ _ 9 f.len f.scalar rfl];have q6:=At.new H5 (.row f.cells);have r6:=r5.push (.row f.cells);have w6:=w5.push (.row f.cells);have E6:=E5.trans (AH.Ext.push H5 (.row f.cells));have o16:=h1.frame (H':=H5.push (.row f.cells)) (fun t _ _ h=>h.push _);have o26:=h2.frame (H':=H5.push (.row f.cells)) (fun t _ _ h=>h.push _);have n6:H5.n<(H5.push (.row f.cells)).n:=Nat.lt_succ_self _;simp only[aa,ab,Nat.zero_add];rw[au9 q6];simp only[aa];generalize H5.push (.row f.cells)=H6 at *;refine hfd f gI (Bv mX f gI) _ _ fun sz al l1 l2 oa ob lg H7 E7 i1 i2 hg hb=>?_;rw[fC H7 _ (cX sz al oa ob lg) 5 rfl (LW i1 i2) rfl];have q8:=(q6.ext E7).push (.row (cX sz al oa ob lg));have r8:=(r6.ext E7).push (.row (cX sz al oa ob lg));have w8:=(w6.ext E7).push (.row (cX sz al oa ob lg));have x8:=At.new H7 (.row (cX sz al oa ob lg));have E8:=E6.trans (E7.trans (AH.Ext.push H7 (.row (cX sz al oa ob lg))));have GQ:=o16.frame (H':=H7.push (.row (cX sz al oa ob lg))) (fun t _ _ h=>(h.ext E7).push _);have o28:=o26.frame (H':=H7.push (.row (cX sz al oa ob lg))) (fun t _ _ h=>(h.ext E7).push _);have n7:H6.n≤H7.n:=E7.1;have n8:H7.n<(H7.push (.row (cX sz al oa ob lg))).n:=Nat.lt_succ_self _;simp only[aa,ab,Nat.zero_add];generalize H7.push (.row (cX sz al oa ob lg))=H8 at *;rw[(o3 x8).2.2.2.2.1];simp only[aa,aD];refine aN (fun hl=>?_) (fun hl=>?_)
   · have pW:(bh f.type).2=false:=by
       cases q:(bh f.type).2 with
       |false=>rfl
       |true=>rw[(hg q).1]at hl;cases hl
     rw[if_neg (by rw[pW];decide)]at he;rw[show bJ [.int .i64 0,.int .i64 0,.aq .nil 0 [],.aq .nil 0 [],.bool false] [(1,1,.int .i64 1),(4,1,.bool true)]=some (.agg (cX 0 1 (.aq .nil 0 []) (.aq .nil 0 []) true))from rfl];simp only[aa];refine ret _ _ [] [] _ _ _ H8 E8 r8 nil nil (fun q=>?_) (fun _=>rfl);rw[axb he.symm]at q;cases q
   have pW:(bh f.type).2=true:=by
    cases q:(bh f.type).2 with
    |true=>rfl
    |false=>exact absurd (hb q) hl
   obtain⟨g1,g2,g3,_⟩:=hg pW;rw[if_pos pW]at he;obtain⟨b1,b2,b3,b4⟩:=hob pW;have avx:=abr (packed:=t.packed) (kind:=t.kind) (by omega) hp hr b1 b2 b3 b4 (fun iC=>by obtain⟨z1,z2,z3,z4,z5,z6⟩:=jx iC;exact⟨z2,z3,z4,z5,z6,by rw[Ad (.inl z1)]⟩)
   obtain⟨lp,wM⟩:=avx;have hgg:(bh f.type).1=(sz,al):=Prod.ext g2.symm g3.symm;rw[hgg]at b1 b2 b3 b4 lp wM he;dsimp only at b1 b2 b3 b4;have aCN:=hr.bit;have pb0:=hp.b0;have pb1:=hp.b1;have fb0:=wM.b0;have fb1:=wM.b1;have awB:=lp.bit;have fe0:=lp.e0;have hFb:(i0 t.packed t.kind s.bit f (sz,al)).1+(i0 t.packed t.kind s.bit f (sz,al)).2.1=(o_ t.packed t.kind p f (sz,al)).bit:=awB;obtain ⟨b0,KC,c0,c1⟩:∃b0:Int,(if t.kind=4 then 0 else s.bit)=b0∧0≤b0∧b0≤19200000:=by
    split
    ·exact⟨0,rfl,by omega,by omega⟩
    ·exact⟨s.bit,rfl,by omega,by omega⟩
   generalize u6:QY t.packed t.kind s f (sz,al)=s' at *;have XP:s'.bit=(i0 t.packed t.kind s.bit f (sz,al)).1+(i0 t.packed t.kind s.bit f (sz,al)).2.1:=by rw[←u6];rfl
   have es2:s'.end_=max s.end_ ((i0 t.packed t.kind s.bit f (sz,al)).1+(i0 t.packed t.kind s.bit f (sz,al)).2.1):=by rw[←u6];rfl
   have es3:s'.align=max s.align (i0 t.packed t.kind s.bit f (sz,al)).2.2:=by rw[←u6];rfl
   have es4:s'.first=s.first++[(i0 t.packed t.kind s.bit f (sz,al)).1]:=by rw[←u6];rfl
   have es5:s'.bits=s.bits++[(i0 t.packed t.kind s.bit f (sz,al)).2.1]:=by rw[←u6];rfl
   have yb:i0 t.packed t.kind s.bit f (sz,al)=if f.bits=true then
    (bD b0 (if f.width=0∨b0%(8*f.type.size)+f.width>8*f.type.size then 8*f.type.size else 1),f.width,if t.packed=true∨f.width=0 then 1 else al)
    else(bD b0 (if t.packed=true then 8 else 8*al),8*sz,if t.packed=true then 1 else al):=by unfold i0;rw[KC]
   generalize i0 t.packed t.kind s.bit f (sz,al)=F at *;have l1k:s.first.length=k:=by rw[hr.l1,List.length_take];omega
   have l2k:s.bits.length=k:=by rw[hr.l2,List.length_take];omega
   have k7:∀step n:Int,n=F.2.1→S.UA (au C) (.av t.cells) (.ptr H1.n 0) (.ptr H5.n 0) (.ptr H7.n 0) ([.int .i64 s.bit,.int .i64 s.end_,.int .i64 k],H5) (aB (S.rO (au C) (.av t.cells) (.ptr H.n 0) (.ptr H1.n 0) Q)) [.int .i64 step,.int .i64 n] Q [.int .i64 F.1] H8:=by
    intro step n hn;unfold S.UA;simp only[aA,cv,ab,Nat.zero_add,(o3 w8).2.2.1,aa];rw[show fb H8 false 1 1 [.int .i64 0] [(0,1,.int .i64 F.1)]=some (.aq .full 1 [.int .i64 F.1],H8)from rfl];simp only[bw];refine GQ.JD (by omega) (m:=1) (news:=[.int .i64 F.1]) rfl rfl rfl (by decide) (by omega) (by omega) fun H9 o19 n9 zS=>?_;have w9:=zS _ _ w8 (GQ.yH w8);have r9:=zS _ _ r8 (GQ.yH r8);have q9:=zS _ _ q8 (GQ.yH q8);have x9:=zS _ _ x8 (GQ.yH x8);have o29:=o28.move zS bU;have E9:=Ext.aY E8 (Nat.le_of_lt n9) (fun i o hi h=>zS i o h (GQ.low (by omega)));rw[ap1 w9];simp only[aa];have Za:=w9.set (.row (cX 0 s.align (.aq (.own H8.n) (s.first.length+1) (s.first.map (AV.int .i64)++[.int .i64 F.1])) o2 false));have r10:=r9.dq (i:=H1.n) (by omega) (.row (cX 0 s.align (.aq (.own H8.n) (s.first.length+1) (s.first.map (AV.int .i64)++[.int .i64 F.1])) o2 false));have oQ:=q9.dq (i:=H1.n) (by omega) (.row (cX 0 s.align (.aq (.own H8.n) (s.first.length+1) (s.first.map (AV.int .i64)++[.int .i64 F.1])) o2 false));have bQ:=x9.dq (i:=H1.n) (by omega) (.row (cX 0 s.align (.aq (.own H8.n) (s.first.length+1) (s.first.map (AV.int .i64)++[.int .i64 F.1])) o2 false));have axZ:=o19.EO w9 (.row (cX 0 s.align (.aq (.own H8.n) (s.first.length+1) (s.first.map (AV.int .i64)++[.int .i64 F.1])) o2 false));have FP:=o29.EO w9 (.row (cX 0 s.align (.aq (.own H8.n) (s.first.length+1) (s.first.map (AV.int .i64)++[.int .i64 F.1])) o2 false));have E10:=E9.set (i:=H1.n) (by omega) (.row (cX 0 s.align (.aq (.own H8.n) (s.first.length+1) (s.first.map (AV.int .i64)++[.int .i64 F.1])) o2 false));have n10:(H9.set H1.n (.row (cX 0 s.align (.aq (.own H8.n) (s.first.length+1) (s.first.map (AV.int .i64)++[.int .i64 F.1])) o2 false))).n=H9.n:=rfl;generalize H9.set H1.n (.row (cX 0 s.align (.aq (.own H8.n) (s.first.length+1) (s.first.map (AV.int .i64)++[.int .i64 F.1])) o2 false))=bZ at *;have ap_:∀i l c,o2 = .aq (.own i) l c→∀l' c',(AV.aq (.own H8.n) (s.first.length+1) (s.first.map (AV.int .i64)++[.int .i64 F.1])) ≠ .aq (.own i) l' c':=by
     intro i l c e l' c' e';simp only[AV.aq.injEq,Tok.own.injEq]at e';obtain⟨tk,RK,_,ht⟩:=o28;rw[RK]at e;simp only[AV.aq.injEq]at e;rcases ht with⟨q,_⟩|q|⟨t',q,_,h3⟩
     ·rw[q]at e;cases e.1
     ·rw[q]at e;cases e.1
     · rw[q]at e;have:t'=i:=by simpa using e.1
       have:=h3.1;omega
    rw[(o3 Za).2.2.2.1];simp only[aa];rw[show fb bZ false 1 1 [.int .i64 0] [(0,1,.int .i64 n)]=some (.aq .full 1 [.int .i64 n],bZ)from rfl];simp only[bw];refine FP.JD (by omega) (m:=1) (news:=[.int .i64 n]) rfl rfl rfl (by decide) (by omega) (by omega) fun cy ax2 n11 FN=>?_;have R3:=FN _ _ Za (FP.yH Za);have r11:=FN _ _ r10 (FP.yH r10);have ug:=FN _ _ oQ (FP.yH oQ);have bH:=FN _ _ bQ (FP.yH bQ);have ax0:=axZ.move FN ap_;have E11:=Ext.aY E10 (Nat.le_of_lt n11) (fun i o hi h=>FN i o h (FP.low (by omega)));rw[ap2 R3];simp only[aa,cp];have G9:=R3.set (.row (cX 0 s.align (.aq (.own H8.n) (s.first.length+1) (s.first.map (AV.int .i64)++[.int .i64 F.1])) (.aq (.own bZ.n) (s.bits.length+1) (s.bits.map (AV.int .i64)++[.int .i64 n])) false));have r12:=r11.dq (i:=H1.n) (by omega) (.row (cX 0 s.align (.aq (.own H8.n) (s.first.length+1) (s.first.map (AV.int .i64)++[.int .i64 F.1])) (.aq (.own bZ.n) (s.bits.length+1) (s.bits.map (AV.int .i64)++[.int .i64 n])) false));have wK:=ug.dq (i:=H1.n) (by omega) (.row (cX 0 s.align (.aq (.own H8.n) (s.first.length+1) (s.first.map (AV.int .i64)++[.int .i64 F.1])) (.aq (.own bZ.n) (s.bits.length+1) (s.bits.map (AV.int .i64)++[.int .i64 n])) false));have bc:=bH.dq (i:=H1.n) (by omega) (.row (cX 0 s.align (.aq (.own H8.n) (s.first.length+1) (s.first.map (AV.int .i64)++[.int .i64 F.1])) (.aq (.own bZ.n) (s.bits.length+1) (s.bits.map (AV.int .i64)++[.int .i64 n])) false));have ax1:=ax0.EO R3 (.row (cX 0 s.align (.aq (.own H8.n) (s.first.length+1) (s.first.map (AV.int .i64)++[.int .i64 F.1])) (.aq (.own bZ.n) (s.bits.length+1) (s.bits.map (AV.int .i64)++[.int .i64 n])) false));have ax3:=ax2.EO R3 (.row (cX 0 s.align (.aq (.own H8.n) (s.first.length+1) (s.first.map (AV.int .i64)++[.int .i64 F.1])) (.aq (.own bZ.n) (s.bits.length+1) (s.bits.map (AV.int .i64)++[.int .i64 n])) false));have E12:=E11.set (i:=H1.n) (by omega) (.row (cX 0 s.align (.aq (.own H8.n) (s.first.length+1) (s.first.map (AV.int .i64)++[.int .i64 F.1])) (.aq (.own bZ.n) (s.bits.length+1) (s.bits.map (AV.int .i64)++[.int .i64 n])) false));generalize cy.set H1.n (.row (cX 0 s.align (.aq (.own H8.n) (s.first.length+1) (s.first.map (AV.int .i64)++[.int .i64 F.1])) (.aq (.own bZ.n) (s.bits.length+1) (s.bits.map (AV.int .i64)++[.int .i64 n])) false))=dQ at *;have hO:∀i l c,(AV.aq (.own H8.n) (s.first.length+1) (s.first.map (AV.int .i64)++[.int .i64 F.1])) = .aq (.own i) l c→∀l' c',(AV.aq (.own bZ.n) (s.bits.length+1) (s.bits.map (AV.int .i64)++[.int .i64 n])) ≠ .aq (.own i) l' c':=by intro i l c e l' c' e';simp only[AV.aq.injEq,Tok.own.injEq]at e e';omega
    have o1f:cU H1.n dQ 1 (.aq (.own H8.n) (s.first.length+1) (s.first.map (AV.int .i64)++[.int .i64 F.1])) s'.first.length (s'.first.map (AV.int .i64)):=by rw[es4,List.length_append,List.map_append];exact ax1
    have o2f:cU H1.n dQ 1 (.aq (.own bZ.n) (s.bits.length+1) (s.bits.map (AV.int .i64)++[.int .i64 n])) s'.bits.length (s'.bits.map (AV.int .i64)):=by rw[es5,List.length_append,List.map_append,←hn];exact ax3
    generalize (AV.aq (.own H8.n) (s.first.length+1) (s.first.map (AV.int .i64)++[.int .i64 F.1]))=O1 at *;generalize (AV.aq (.own bZ.n) (s.bits.length+1) (s.bits.map (AV.int .i64)++[.int .i64 n]))=O2 at *;have aye:IntKind.wrap .i64 (F.1+n)=s'.bit:=by rw[hn,XP];exact wrap_i64 (by omega) (by omega)
    rw[aye];have k3:∀de,AH.Ext H de→At de H.n (.row (cX 0 0 (.aq .nil 0 []) (.aq .nil 0 []) false))→At de H1.n (.row (cX 0 s'.align O1 O2 false))→cU H1.n de 1 O1 s'.first.length (s'.first.map (AV.int .i64))→cU H1.n de 1 O2 s'.bits.length (s'.bits.map (AV.int .i64))→S.Ot (au C) ([.int .i64 s.bit,.int .i64 s.end_,.int .i64 k],H5) (aB (S.rO (au C) (.av t.cells) (.ptr H.n 0) (.ptr H1.n 0) Q)) Q [.int .i64 s'.bit,.int .i64 s'.end_] de:=by intro de E13 r13 w13 p1 p2;unfold S.Ot;simp only[aA,cv,cp,aa,axo];exact ih (k+1) _ s' O1 O2 de bC (by omega) E13 r13 w13 p1 p2 hO wM (by rw[gD];exact lp) he
    have k4:S.Ou (au C) (.ptr H1.n 0) (.int .i64 s'.bit) ([.int .i64 s.bit,.int .i64 s.end_,.int .i64 k],H5) (aB (S.rO (au C) (.av t.cells) (.ptr H.n 0) (.ptr H1.n 0) Q)) [.int .i64 s'.end_] Q [.int .i64 F.2.2] dQ:=by
     unfold S.Ou;simp only[aA,ab,Nat.zero_add,(o3 G9).2.1,aa,eY,aD,aG];refine aN (fun q=>?_) (fun q=>?_)
     · have q:F.2.2>s.align:=of_decide_eq_true q;rw[ap0 G9];simp only[aa];refine k3 _ (E12.set (by omega) _) (r12.dq (by omega) _) ?_ (o1f.EO G9 _) (o2f.EO G9 _);rw[es3,Int.max_eq_right (by omega)];exact G9.set _
     · have q:¬F.2.2>s.align:=fun z=>q (decide_eq_true z);refine k3 dQ E12 r12 ?_ o1f o2f;rw[es3,Int.max_eq_left (by omega)];exact G9
    have k6:S.Ov (au C) (.av t.cells) (.ptr H1.n 0) (.ptr H5.n 0) (.ptr H7.n 0) (.int .i64 s'.bit) ([.int .i64 s.bit,.int .i64 s.end_,.int .i64 k],H5) (aB (S.rO (au C) (.av t.cells) (.ptr H.n 0) (.ptr H1.n 0) Q)) [.int .i64 step,.int .i64 n] Q [.int .i64 s'.end_] dQ:=by
     unfold S.Ov;have k5:∀b:Bool,(if b=true then(1:Int)else al)=F.2.2→S.Ih (au C) (.ptr H1.n 0) (.int .i64 s'.bit) (.int .i64 al) ([.int .i64 s.bit,.int .i64 s.end_,.int .i64 k],H5) (aB (S.rO (au C) (.av t.cells) (.ptr H.n 0) (.ptr H1.n 0) Q)) [.int .i64 s'.end_] Q [.bool b] dQ:=by
      intro b hb;unfold S.Ih;simp only[aA,aD,aG];cases b with
      |true=>rw[if_pos rfl];rw[if_pos rfl]at hb;rw[hb];exact k4
      |false=>rw[if_neg (by decide)];rw[if_neg (by decide)]at hb;rw[hb];exact k4
     simp only[ab,Nat.zero_add,(o3 bc).2.1,aa,dt,xq,cj,aG,aA,cv];refine gG (fun yj=>?_) (fun yj=>?_)
     · simp only[agi wK,aa,ck,cn];refine aN (fun nX=>?_) (fun nX=>?_)
       · refine k5 _ ?_;rw[yb,if_pos nX,yj];have sD:n=f.width:=by rw[hn,yb,if_pos nX]
         rw[sD];by_cases hz:f.width=0
         ·simp[hz]
         ·simp[hz]
       · refine k5 false ?_;rw[yb,if_neg nX,yj]
     · refine k5 true ?_;rw[yb];cases nX:f.bits<;>simp[yj]
    simp only[eY,aa,aD,aG,aA,cv];refine aN (fun q=>?_) (fun q=>?_)
    · have q:s'.bit>s.end_:=of_decide_eq_true q;have:s'.end_=s'.bit:=by rw[es2,←XP];exact Int.max_eq_right (by omega)
      rw[this]at k6;exact k6
    · have q:¬s'.bit>s.end_:=fun z=>q (decide_eq_true z);have:s'.end_=s.end_:=by rw[es2,←XP];exact Int.max_eq_left (by omega)
      rw[this]at k6;exact k6
   have k9:∀step n:Int,0<step→step≤1000000→F.1=bD b0 step→n=F.2.1→S.Ii (au C) (.av t.cells) (.ptr H1.n 0) (.ptr H5.n 0) (.ptr H7.n 0) ([.int .i64 s.bit,.int .i64 s.end_,.int .i64 k],H5) (aB (S.rO (au C) (.av t.cells) (.ptr H.n 0) (.ptr H1.n 0) Q)) [.int .i64 b0] Q [.int .i64 step,.int .i64 n] H8:=by
    intro step n s0 s1 Gh hn;unfold S.Ii;simp only[aA];have Ln:=k7 step n hn;rw[Gh]at Ln;have hB:=lv (n:=b0) s0;have loop:∀(m:Nat)(b:Int),0≤b→bD b step=bD b0 step→(bD b0 step-b).toNat=m→aB (S.Ow (au C) (.av t.cells) (.ptr H1.n 0) (.ptr H5.n 0) (.ptr H7.n 0) ([.int .i64 s.bit,.int .i64 s.end_,.int .i64 k],H5) (aB (S.rO (au C) (.av t.cells) (.ptr H.n 0) (.ptr H1.n 0) Q)) [.int .i64 step,.int .i64 n] Q) ([.int .i64 b],H8):=by
     intro m;induction m with
     | zero=>
      intro b rC kZ hm;have hb:=lv (n:=b) s0;have KN:=Af (n:=b) s0;have Gk:b=bD b0 step:=by omega
      refine aB.step ?_;simp only[S.Ow,aA];rw[vi .i64 _ _ (by omega),Int.tmod_eq_emod_of_nonneg rC];have hz:b%step=0:=by
       have:b=bD b step:=by omega
       rw[this];exact KN
      simp only[aa,eK,hz,aD];rw[if_neg (by decide),Gk];exact Ln
     | succ m GC=>
      intro b rC kZ hm;have hb:=lv (n:=b) s0;refine aB.step ?_;simp only[S.Ow,aA];rw[vi .i64 _ _ (by omega),Int.tmod_eq_emod_of_nonneg rC];have hz:b%step≠0:=fun q=>by have:=Th (b:=b) s0 q;omega
      simp only[aa,eK,aD];rw[if_pos (by simpa using hz)];simp only[cp,aa];rw[wrap_i64 (by omega) (by omega)];exact GC (b+1) (by omega) (by rw[Tg s0 hz];exact kZ) (by omega)
    exact loop _ b0 c0 rfl rfl
   have nI : S.Nk (au C) (.av t.cells) (.ptr H1.n 0) (.ptr H5.n 0) (.ptr H7.n 0) ([.int .i64 s.bit,.int .i64 s.end_,.int .i64 k],H5) (aB (S.rO (au C) (.av t.cells) (.ptr H.n 0) (.ptr H1.n 0) Q)) Q [.int .i64 b0] H8:=by
    unfold S.Nk;have ayc:IntKind.wrap .i64 (8*al)=8*al:=wrap_i64 (by omega) (by omega);have ayd:IntKind.wrap .i64 (8*sz)=8*sz:=wrap_i64 (by omega) (by omega);have iK:∀st:Int,(f.bits=false→0<st∧st≤1000000∧F.1=bD b0 st∧8*sz=F.2.1)→S.Nj (au C) (.av t.cells) (.ptr H1.n 0) (.ptr H5.n 0) (.ptr H7.n 0) (.int .i64 (8*sz)) ([.int .i64 s.bit,.int .i64 s.end_,.int .i64 k],H5) (aB (S.rO (au C) (.av t.cells) (.ptr H.n 0) (.ptr H1.n 0) Q)) [.int .i64 b0] Q [.int .i64 st] H8:=by
     intro st aX;unfold S.Nj;simp only[aA,ab,Nat.zero_add,agi q8,aa,aD];refine aN (fun nX=>?_) (fun nX=>?_)
     · obtain ⟨z1,z2,z3,z4,z5,z6⟩:=jx nX;have w8u:IntKind.wrap .i64 (8*f.type.size)=8*f.type.size:=wrap_i64 (by omega) (by omega);have hn:f.width=F.2.1:=by rw[yb,if_pos nX]
       have Gh:F.1=bD b0 (if f.width=0∨b0%(8*f.type.size)+f.width>8*f.type.size then 8*f.type.size else 1):=by rw[yb,if_pos nX]
       simp only[ava q8,aa,ab];rw[show(1+1:Nat)=2 from rfl,au_ q8];simp only[aa,m7,w8u,cn,cj,aG];have lU:∀c:Bool,(c=true↔(f.width=0∨b0%(8*f.type.size)+f.width>8*f.type.size))→S.Ni (au C) (.av t.cells) (.ptr H1.n 0) (.ptr H5.n 0) (.ptr H7.n 0) (.int .i64 f.width) (.int .i64 (8*f.type.size)) ([.int .i64 s.bit,.int .i64 s.end_,.int .i64 k],H5) (aB (S.rO (au C) (.av t.cells) (.ptr H.n 0) (.ptr H1.n 0) Q)) [.int .i64 b0] Q [.bool c] H8:=by
        intro c hc;unfold S.Ni;simp only[aA,aD,aG];refine aN (fun q=>?_) (fun q=>?_)
        · rw[if_pos (hc.1 q)]at Gh;exact k9 _ _ (by omega) (by omega) Gh hn
        · rw[if_neg (fun z=>q (hc.2 z))]at Gh;exact k9 _ _ (by omega) (by omega) Gh hn
       refine gG (fun q=>?_) (fun q=>?_)
       · have q:¬f.width=0:=by simpa using q
         rw[vi .i64 _ _ (by omega),Int.tmod_eq_emod_of_nonneg c0];have hm0:=Int.emod_nonneg b0 (show(8*f.type.size)≠0 by omega);have nG:=Int.emod_lt_of_pos b0 (show 0<8*f.type.size by omega);simp only[aa,cp];rw[wrap_i64 (by omega) (by omega)];simp only[aa,eY];refine lU _ ⟨fun z=> .inr (of_decide_eq_true z),fun z=>?_⟩;rcases z with z|z
         ·exact absurd z q
         ·exact decide_eq_true z
       · have q:f.width=0:=by simpa using q
         exact lU true ⟨fun _=> .inl q,fun _=>rfl⟩
     · obtain⟨y1,y2,y3,y4⟩:=aX (by simpa using nX);simp only[aG];exact k9 st _ y1 y2 y3 y4
    simp only[ab,Nat.zero_add,(o3 x8).1,(o3 x8).2.1,aa,m7,ayc,ayd,dt,xq,aD,aG];refine aN (fun yj=>?_) (fun yj=>?_)
    · refine iK 8 fun nX=>⟨by decide,by decide,?_,?_⟩
      ·rw[yb,if_neg (by rw[nX];decide),yj];rfl
      ·rw[yb,if_neg (by rw[nX];decide)]
    · refine iK (8*al) fun nX=>⟨by omega,by omega,?_,?_⟩
      · rw[yb,if_neg (by rw[nX];decide)];show _=bD b0 _;rw[if_neg yj]
      ·rw[yb,if_neg (by rw[nX];decide)]
   simp only[dt,qm,aa,cn,aD,aG];refine aN (fun q=>?_) (fun q=>?_)
   · have q:t.kind=4:=by simpa using q
     rw[if_pos q]at KC;rw[←KC]at nI;exact nI
   · have q:¬t.kind=4:=by simpa using q
     rw[if_neg q]at KC;rw[←KC]at nI;exact nI
 have z1:cU H1.n H2 1 (.aq .nil 0 []) 0 []:=cU.nil _ _ _;exact main t.fields 0 ⟨0,1,[],0⟩ ⟨0,0,1,[],[]⟩ _ _ H2 rfl (Nat.zero_le _) E2 r2 w2 z1 z1 (fun i l c q=>by cases q) so.zero zq.zero rfl
theorem abD:∀t:aE,ed t=0→P3 C t:=by refine aE.ind fun t mH k_ hs=>?_;exact aqs aw hT hs mH k_
end
end Rb

namespace Rb
open Go
theorem kL{b:Bool}{A B:Prop}(h1:b=true→A)(h2:b=false→B):if b=true then A else B:=aN h1 fun h=>h2 (by simpa using h)
theorem qM{b:Bool}{A B:Prop}(h1:b=false→A)(h2:b=true→B):if b=false then A else B:=aN h1 fun h=>h2 (by simpa using h)
def IH:List UInt8→Bool
 |[]=>true
 |c::r=>isLet c&&r.all pb
section
variable{Φ:aj}{H:AH}{Q:ae}
theorem Se{s : List UInt8}(hQ:Q (.bool (gH s)) H):S.f13 Φ (.str s) H Q:=by
 have fin:∀b:Bool,b=gH s→Q (.bool b) H:=fun b h=>by rw[h];exact hQ
 clear hQ;unfold S.f13;simp only[DV,aa,cn,cj];have k5 : s ≠ []→s.length≤16→ak (S.Uw Φ (.str s) Q) [] H:=by
  intro bU hl;simp only[aG,S.Uw];have u0:IH s=gH s:=by
   clear fin;cases s with
   |nil=>exact absurd rfl bU
   | cons c r=>
    simp only[List.length_cons]at hl;have:r.length<16:=by omega
    simp[gH,IH,this]
  have main : ∀(ys:List UInt8)(i:Nat),s.drop i=ys→(if i=0 then IH ys else ys.all pb)=gH s →
    aB (S.Et Φ (.str s) Q) ([.int .i64 i],H):=by
   intro ys;induction ys with
   | nil=>intro i hi hq;have hle:=fe hi;refine aB.step ?_;simp only[S.Et,aA,DV,bF,aa,aD];rw[if_neg (by simp only[decide_eq_true_eq];omega)];exact fin _ (by rw[←hq];split<;>rfl)
   | cons y ys ih=>
    intro i hi hq;obtain⟨aO,hy,hd⟩:=eX hi;refine aB.step ?_;simp only[S.Et,aA,DV,bF,aa,aD];rw[if_pos (by simp only[decide_eq_true_eq];omega)];have hx:oz (.str s) (.int .i64 i)=some (.int .u8 y.toNat):=by simp only[oz];rw[if_pos (by omega)];simp[hy]
    rw[hx];have k2:∀b:Bool,b=!(if i=0 then isLet y else pb y)→ak (S.BU Φ ([.int .i64 i],H) (aB (S.Et Φ (.str s) Q)) Q) [.bool b] H:=by
     intro b hb;simp only[aG,S.BU,aA,aD];refine kL (fun h=>?_) (fun h=>?_)
     · refine fin _ ?_;rw[←hq];rw[h]at hb;by_cases n_:i=0
       · rw[if_pos n_]at hb ⊢;simp at hb;simp[hb,IH]
       · rw[if_neg n_]at hb ⊢;simp at hb;simp[hb]
     · simp only[S.adJ,aA,cp,aa];rw[wrap_i64 (by omega) (by omega),show((i:Int)+1)=((i+1:Nat):Int) by simp];refine ih (i+1) hd ?_;rw[←hq];rw[h]at hb;by_cases n_:i=0
       · rw[if_pos n_]at hb ⊢;simp at hb;simp[hb,IH]
       · rw[if_neg n_]at hb ⊢;simp at hb;simp[hb]
    have k3 : ∀b:Bool,b=isLet y→ak (S.N2 Φ (.int .u8 y.toNat) ([.int .i64 i],H) (aB (S.Et Φ (.str s) Q)) Q) [.bool b] H:=by
     intro b hb;simp only[aG,S.N2,aA,gk,aa,ck];refine kL (fun h=>?_) (fun h=>?_)
     · have hl:isLet y=false:=by rw[←hb];simpa using h
       simp only[cn,aa,cj];refine qM (fun h1=>?_) (fun h1=>?_)
       · have n_:i≠0:=by simp only[beq_eq_false_iff_ne,ne_eq]at h1;omega
         simp only[eK,aa,ck];refine kL (fun h2=>?_) (fun h2=>?_)
         · have zw:y.toNat≠95:=by simp only[bne_iff_ne,ne_eq]at h2;omega
           simp only[bF,aa,cj];refine qM (fun h3=>?_) (fun h3=>?_)
           · have zx:¬y.toNat<48:=by simp only[decide_eq_false_iff_not]at h3;omega
             simp only[eY,aa];refine k2 _ ?_;rw[if_neg n_];unfold pb;rw[hl];rw[Bool.eq_iff_iff];simp[Jb,zw];omega
           · have zx:y.toNat<48:=by simp only[decide_eq_true_eq]at h3;omega
             refine k2 _ ?_;rw[if_neg n_];unfold pb;rw[hl];rw[Bool.eq_iff_iff];simp[Jb,zw];omega
         · have zw:y.toNat=95:=by simp only[bne_eq_false_iff_eq]at h2;omega
           refine k2 _ ?_;rw[if_neg n_];simp[pb,zw]
       · have n_:i=0:=by simp only[beq_iff_eq]at h1;omega
         refine k2 _ ?_;rw[if_pos n_,hl];rfl
     · have hl:isLet y=true:=by rw[←hb];simpa using h
       refine k2 _ ?_;have:pb y=true:=by simp[pb,hl]
       rw[hl,this];simp
    simp only[aa,kG,mL,ck];refine kL (fun h=>k3 _ ?_) (fun h=>k3 _ ?_)
    · have h':97≤y.toNat:=by simp only[ge_iff_le,decide_eq_true_eq]at h;omega
      rw[Bool.eq_iff_iff];simp[isLet,h'];omega
    · have h':¬97≤y.toNat:=by simp only[ge_iff_le,decide_eq_false_iff_not]at h;omega
      simp[isLet,h']
  exact main s 0 rfl u0
 have k6:∀b:Bool,(b=true↔(s=[]∨16<s.length))→ak (S.N3 Φ (.str s) Q) [.bool b] H:=by
  intro b hb;simp only[aG,S.N3,aA,aD];refine aN (fun h=>?_) (fun h=>?_)
  · refine fin _ ?_;rcases hb.1 h with rfl|h
    ·rfl
    · cases s with
      |nil=>rfl
      | cons c r=>
       simp at h;have:¬r.length<16:=by omega
       simp[gH,this]
  · have hn:¬(s=[]∨16<s.length):=fun y=>h (hb.2 y);exact k5 (fun e=>hn (.inl e)) (by omega)
 refine qM (fun h=>?_) (fun h=>?_)
 · simp only[eY,aa];refine k6 _ ?_;have bU:s≠[]:=by rintro rfl;simp at h
   simp only[decide_eq_true_eq,gt_iff_lt,bU,false_or];omega
 · refine k6 _ ?_;have he:s=[]:=by simpa using h
   simp[he]
theorem ZE{n most:Int}(hm:most=8∨most=16)(hQ:Q (.bool (gJ n most)) H):S.f93 Φ (.int .i64 n) (.int .i64 most) H Q:=by
 have e:∀b:Bool,b=gJ n most→Q (.bool b) H:=fun b h=>by rw[h];exact hQ
 clear hQ;unfold S.f93;have step:∀k:Int,1≤k→k≤most→(n=k→gJ n most=true)→(n≠k→aB (S.EJ Φ (.int .i64 n) (.int .i64 most) Q) ([.int .i64 (2*k)],H))→aB (S.EJ Φ (.int .i64 n) (.int .i64 most) Q) ([.int .i64 k],H):=by
  intro k h1 h2 h3 h4;refine aB.step ?_;simp only[S.EJ,aA,mL,cn,m7,aa,aD];rw[if_pos (by simpa using h2)];refine kL (fun h=>?_) (fun h=>?_)
  ·exact e _ (h3 (by simpa using h)).symm
  · rw[wrap_i64 (by omega) (by omega)];exact h4 (by simpa using h)
 have stop:∀k:Int,most<k→gJ n most=false→aB (S.EJ Φ (.int .i64 n) (.int .i64 most) Q) ([.int .i64 k],H):=by intro k h1 h2;refine aB.step ?_;simp only[S.EJ,aA,mL,cn,m7,aa,aD];rw[if_neg (by simp only[decide_eq_true_eq];omega)];exact e _ h2.symm
 refine step 1 (by omega) (by omega) (fun h=>by subst h;simp[gJ];omega) fun n1=>?_;refine step (2*1) (by omega) (by omega) (fun h=>by subst h;simp[gJ];omega) fun n2=>?_;refine step (2*(2*1)) (by omega) (by omega) (fun h=>by subst h;simp[gJ];omega) fun n4=>?_;refine step (2*(2*(2*1))) (by omega) (by omega) (fun h=>by subst h;simp[gJ];omega) fun n8=>?_;rcases hm with rfl|rfl
 · refine stop _ (by omega) ?_;by_cases h:n≤8
   · have:n≠1∧n≠2∧n≠4∧n≠8∧n≠16:=by omega
     simp[gJ,this]
   ·simp[gJ,h]
 · refine step (2*(2*(2*(2*1)))) (by omega) (by omega) (fun h=>by subst h;simp[gJ]) fun n16=>?_;refine stop _ (by omega) ?_;have:n≠1∧n≠2∧n≠4∧n≠8∧n≠16:=by omega
   simp[gJ,this]
theorem Z5{t:aE}{i:Nat}{f:aP}(H:AH)(hi:t.fields[i]?=some f):J H 6 true (.av (((t.fields.flatMap aP.cells).drop (i*9)).drop 1))=some (.agg f.type.cells):=by
 have aO:=(List.getElem?_eq_some_iff.1 hi).1;show cC _ 0 6 true=_;rw[sU aP.len];have hd:t.fields.drop i=f::t.fields.drop (i+1):=by rw[List.drop_eq_getElem_cons aO];rw[List.getElem?_eq_getElem aO]at hi;simp at hi;rw[hi]
 rw[hd,List.flatMap_cons,aP.bf,List.cons_append,List.drop_succ_cons,List.drop_zero,List.append_assoc];exact Bq f.type.len
theorem Z4{t:aE}{i:Nat}{f:aP}(H:AH)(hi:t.fields[i]?=some f):J H 1 false (.av (((t.fields.flatMap aP.cells).drop (i*9)).drop 0))=some (.str f.name):=by
 have aO:=(List.getElem?_eq_some_iff.1 hi).1;show cC _ 0 1 false=_;rw[List.drop_zero,sU aP.len];have hd:t.fields.drop i=f::t.fields.drop (i+1):=by rw[List.drop_eq_getElem_cons aO];rw[List.getElem?_eq_getElem aO]at hi;simp at hi;rw[hi]
 rw[hd,List.flatMap_cons,aP.bf];rfl
theorem akc{t:aE}{m:Nat}(h1:1≤m)(h2:m≤65)(zH:t.fields.length≤9223372036854775807)(hle:t.elem.length≤9223372036854775807)
  (hf:1<m→∀f∈t.fields,cG Φ K.f59 [.agg f.type.cells,.int .i64 ((m-1:Nat):Int)] (.int .i64 (im (m-1) f.type)))
  (he:1<m→∀x∈t.elem,cG Φ K.f59 [.agg x.cells,.int .i64 ((m-1:Nat):Int)] (.int .i64 (im (m-1) x)))
  (hQ:Q (.int .i64 (im m t)) H):S.f59 Φ (.agg t.cells) (.int .i64 m) H Q:=by
 have rf:1<m→IntKind.wrap .i64 ((m:Int)-1)=((m-1:Nat):Int):=fun h=>by rw[wrap_i64 (by omega) (by omega)];omega
 have k5:∀v:Int,0≤v→v≤64→v+1=im m t→ak (S.UN Φ Q) [.int .i64 v] H:=by intro v Dw Bd hv;simp only[aG,S.UN,aA,cp,aa];rw[wrap_i64 (by omega) (by omega),hv];exact hQ
 have awV:im m t=(if 1<m then max (jU (m-1) t.fields) (iX (m-1) t.elem)else 0)+1:=by rw[BH];split<;>rfl
 rw[awV]at k5;have VG:∀(xs:List aE)(i:Nat)(acc:Int),t.elem.drop i=xs→0≤acc→acc≤64→max acc (if 1<m then iX (m-1) xs else 0)=(if 1<m then max (jU (m-1) t.fields) (iX (m-1) t.elem)else 0) →
   aB (S.It Φ (.int .i64 m) (.av t.cells) Q) ([.int .i64 acc,.int .i64 i],H):=by
  intro xs;induction xs with
  | nil=>
   intro i acc hd a0 a1 ha;have WB:=fe hd;refine aB.step ?_;simp only[S.It,aA,cv,dt,nt,cu,aa,bF,ck];rw[if_neg (by simp only[decide_eq_true_eq];omega)];simp only[aG,S.O3,aA,aD,Bool.false_eq_true,if_false];refine k5 acc a0 a1 ?_;have:(if 1<m then iX (m-1) ([]:List aE)else 0)=0:=by split<;>rfl
   rw[this]at ha;omega
  | cons x xs ih=>
   intro i acc hd a0 a1 ha;obtain⟨aO,hx,bC⟩:=eX hd;refine aB.step ?_;simp only[S.It,aA,cv,dt,nt,cu,aa,bF,ck];rw[if_pos (by simp only[decide_eq_true_eq];omega)];simp only[eY,aa,aG,S.O3,aA,aD];refine kL (fun h=>?_) (fun h=>?_)
   · have nG:1<m:=by simp only[decide_eq_true_eq,gt_iff_lt]at h;omega
     rw[if_pos nG]at ha;simp only[iX]at ha;have hb:=Ep x (m-1) (by omega);simp only[S.ad2,aA,cv,dt,nt,aa];rw[d_ aO];simp only[aa];rw[gO aE.len (by decide) _ hx];simp only[aa,nM];rw[rf nG];refine he nG x (List.mem_of_getElem? hx) _ _ ?_;simp only[eY,aa,aD];have next:∀v:Int,v=max acc (im (m-1) x)→ak (S.O0 Φ ([.int .i64 acc,.int .i64 i],H) (aB (S.It Φ (.int .i64 m) (.av t.cells) Q)) Q) [.int .i64 v] H:=by intro v hv;simp only[aG,S.O0,aA,cv,cp,aa];rw[wrap_i64 (by omega) (by omega),show((i:Int)+1)=((i+1:Nat):Int) by simp];exact ih (i+1) v bC (by omega) (by omega) (by rw[if_pos nG,hv];omega)
     refine kL (fun h=>next _ ?_) (fun h=>next _ ?_)
     ·simp only[decide_eq_true_eq,gt_iff_lt]at h;omega
     ·simp only[decide_eq_false_iff_not,gt_iff_lt]at h;omega
   · have nG:¬1<m:=by simp only[decide_eq_false_iff_not,gt_iff_lt]at h;omega
     refine k5 acc a0 a1 ?_;rw[if_neg nG]at ha ⊢;omega
 have k8:∀acc:Int,0≤acc→acc≤64→max acc (if 1<m then iX (m-1) t.elem else 0)=(if 1<m then max (jU (m-1) t.fields) (iX (m-1) t.elem)else 0)→ak (S.UO Φ (.int .i64 m) (.av t.cells) Q) [.int .i64 acc] H:=by intro acc a0 a1 ha;simp only[aG,S.UO,aA];exact VG t.elem 0 acc rfl a0 a1 ha
 have VH:∀(xs:List aP)(i:Nat)(acc:Int),t.fields.drop i=xs→0≤acc→acc≤64→max (max acc (if 1<m then jU (m-1) xs else 0)) (if 1<m then iX (m-1) t.elem else 0)=(if 1<m then max (jU (m-1) t.fields) (iX (m-1) t.elem)else 0) →
   aB (S.HL Φ (.int .i64 m) (.av t.cells) Q) ([.int .i64 acc,.int .i64 i],H):=by
  intro xs;induction xs with
  | nil=>
   intro i acc hd a0 a1 ha;have WB:=fe hd;refine aB.step ?_;simp only[S.HL,aA,cv,dt,kV,cu,aa,bF,ck];rw[if_neg (by simp only[decide_eq_true_eq];omega)];simp only[aG,S.O4,aA,aD,Bool.false_eq_true,if_false];refine k8 acc a0 a1 ?_;have:(if 1<m then jU (m-1) ([]:List aP)else 0)=0:=by split<;>rfl
   rw[this]at ha;omega
  | cons x xs ih=>
   intro i acc hd a0 a1 ha;obtain⟨aO,hx,bC⟩:=eX hd;refine aB.step ?_;simp only[S.HL,aA,cv,dt,kV,cu,aa,bF,ck];rw[if_pos (by simp only[decide_eq_true_eq];omega)];simp only[eY,aa,aG,S.O4,aA,aD];refine kL (fun h=>?_) (fun h=>?_)
   · have nG:1<m:=by simp only[decide_eq_true_eq,gt_iff_lt]at h;omega
     rw[if_pos nG]at ha;simp only[jU,HE]at ha;have hb:=Ep x.type (m-1) (by omega);simp only[S.adZ,aA,cv,dt,kV,aa];rw[d_ aO];simp only[aa,iB,ab,Z5 H hx,nM];rw[rf nG];refine hf nG x (List.mem_of_getElem? hx) _ _ ?_;simp only[eY,aa,aD];have next:∀v:Int,v=max acc (im (m-1) x.type)→ak (S.OZ Φ ([.int .i64 acc,.int .i64 i],H) (aB (S.HL Φ (.int .i64 m) (.av t.cells) Q)) Q) [.int .i64 v] H:=by intro v hv;simp only[aG,S.OZ,aA,cv,cp,aa];rw[wrap_i64 (by omega) (by omega),show((i:Int)+1)=((i+1:Nat):Int) by simp];refine ih (i+1) v bC (by omega) (by omega) ?_;rw[if_pos nG]at ha ⊢;rw[hv,←ha];omega
     refine kL (fun h=>next _ ?_) (fun h=>next _ ?_)
     ·simp only[decide_eq_true_eq,gt_iff_lt]at h;omega
     ·simp only[decide_eq_false_iff_not,gt_iff_lt]at h;omega
   · have nG:¬1<m:=by simp only[decide_eq_false_iff_not,gt_iff_lt]at h;omega
     refine k8 acc a0 a1 ?_;simp only[if_neg nG]at ha ⊢;omega
 unfold S.f59;simp only[lu,bw];refine VH t.fields 0 0 rfl (by omega) (by omega) ?_;split
 · have:=Mw t.fields (m-1) (by omega);omega
 ·omega
end
end Rb

namespace Rb
open Go
theorem qx{x:Bool}(h:true=!x):x=false:=by cases x;rfl;cases h
theorem qt{x:Bool}(h:false=!x):x=true:=by cases x;cases h;rfl
section
variable{Φ:aj}{H:AH}{Q:ae}
theorem ake(hT : Cl Φ S.cH){t:aE}(zH:t.fields.length≤9223372036854775807)(hf:∀f∈t.fields,cG Φ K.f60 [.agg f.type.cells] (.int .i64 (ed f.type)))
  (he:∀e∈t.elem,cG Φ K.f60 [.agg e.cells] (.int .i64 (ed e))) (hQ:∀H',Q (.int .i64 (ed t)) H'):S.f60 Φ (.agg t.cells) H Q:=by
 have fin:∀v H',v=ed t→Q (.int .i64 v) H':=fun v H' h=>by rw[h];exact hQ H'
 clear hQ;rw[m9]at fin;unfold S.f60;simp only[lu,bw,dt,qm,aa,cn,aD];have Qm:∀n:Nat,decide ((n:Int)>0)=!(n==0):=fun n=>by rw[Bool.eq_iff_iff];simp;omega
 have num:(t.kind=1∨t.kind=2)→ak (S.D_ Φ (.av t.cells) (.int .i64 t.kind) Q) [.bool true] H:=by
  intro hk;have ho:lz t.kind t.size t.packed t.fields.length t.count t.elem.length=(!t.packed&&t.fields.length==0&&t.count==0&&t.elem.length==0):=by unfold lz;rw[if_pos hk]
  rw[ho]at fin;clear ho;have k1:∀b:Bool,(∀H',Q (.int .i64 (if b=true then 9 else 0)) H')→ak (S.Iu Φ Q) [.bool b] H:=by
   intro b hb;simp only[aG,S.Iu,aA,aD];cases b
   ·exact hb H
   ·exact hb H
  have k3:(!t.packed&&t.fields.length==0&&t.count==0&&t.elem.length==0)=true→ak (S.UQ Φ (.av t.cells) Q) [] H:=by
   intro hc;rw[hc]at fin;simp only[Bool.true_eq_false,if_false]at fin;simp only[aG,S.UQ,dt,qm,vy,aa,cn,ck];refine kL (fun h=>?_) (fun h=>?_)
   · have ij:t.kind=1:=by simpa using h
     rw[if_pos ij]at fin;refine S.adx hT (ZE (.inl rfl) ?_);simp only[gk,aa,S.O7,aA,cj,dt,qm,cn,ck,ij];refine qM (fun h=>?_) (fun h=>?_)
     · rw[if_neg (by decide)];refine k1 _ fun H'=>fin _ _ ?_;have:gJ t.size 8=true:=by simpa using h
       rw[if_pos this];rfl
     · refine k1 _ fun H'=>fin _ _ ?_;have:gJ t.size 8=false:=by simpa using h
       rw[this];rfl
   · have ij:t.kind≠1:=by simpa using h
     have eZ:t.kind=2:=by omega
     rw[if_neg ij,if_pos eZ]at fin;simp only[S.O7,aA,cj,dt,qm,vy,cn,ck,eZ,aa,if_true,BEq.rfl];refine S.adx hT (ZE (.inr rfl) ?_);simp only[gk,aa];refine k1 _ fun H'=>fin _ _ ?_;cases gJ t.size 16<;>rfl
  have k4:∀b:Bool,b=!(!t.packed&&t.fields.length==0&&t.count==0&&t.elem.length==0)→ak (S.O8 Φ (.av t.cells) Q) [.bool b] H:=by
   intro b hb;simp only[aG,S.O8,aA,aD];refine kL (fun h=>?_) (fun h=>?_)
   · refine fin _ _ ?_;rw[h]at hb;rw[if_pos (by first|exact qx hb|exact qt hb)]
   · rw[h]at hb;exact k3 (by first|exact qx hb|exact qt hb)
  have k5:∀b:Bool,b=!(!t.packed&&t.fields.length==0&&t.count==0)→ak (S.O9 Φ (.av t.cells) Q) [.bool b] H:=by
   intro b hb;simp only[aG,S.O9,aA,cj,dt,nt,cu,eY,aa,Qm];refine qM (fun h=>?_) (fun h=>?_)
   · refine k4 _ ?_;rw[h]at hb;have:(!t.packed&&t.fields.length==0&&t.count==0)=true:=by first|exact qx hb|exact qt hb
     rw[this];rfl
   · refine k4 _ ?_;rw[h]at hb;have:(!t.packed&&t.fields.length==0&&t.count==0)=false:=by first|exact qx hb|exact qt hb
     rw[this];rfl
  have k6:∀b:Bool,b=!(!t.packed&&t.fields.length==0)→ak (S.O_ Φ (.av t.cells) Q) [.bool b] H:=by
   intro b hb;simp only[aG,S.O_,aA,cj,dt,Aw,eK,aa];refine qM (fun h=>?_) (fun h=>?_)
   · refine k5 _ ?_;rw[h]at hb;have:(!t.packed&&t.fields.length==0)=true:=by first|exact qx hb|exact qt hb
     rw[this];rfl
   · refine k5 _ ?_;rw[h]at hb;have:(!t.packed&&t.fields.length==0)=false:=by first|exact qx hb|exact qt hb
     rw[this];rfl
  simp only[aG,S.D_,aA,aD,if_true,dt,xq,kV,aa,cj,cu,eY,Qm];refine qM (fun h=>?_) (fun h=>?_)
  ·exact k6 _ (by rw[h];rfl)
  ·exact k6 _ (by rw[h];rfl)
 refine kL (fun h1=>?_) (fun h1=>?_)
 ·rw[h1];exact num (.inl (by simpa using h1))
 have ij:t.kind≠1:=by simpa using h1
 refine(fun(x:∀b:Bool,b=(t.kind==2)→ak (S.D_ Φ (.av t.cells) (.int .i64 t.kind) Q) [.bool b] H)=>x _ rfl) fun b hb=>?_;by_cases eZ:t.kind=2
 ·rw[hb,show(t.kind==2)=true by simpa using eZ];exact num (.inr eZ)
 have iC:b=false:=by rw[hb];simpa using eZ
 subst iC;simp only[aG,S.D_,aA,aD,Bool.false_eq_true,if_false,cn,aa];refine kL (fun h5=>?_) (fun h5=>?_)
 ·
   have tW:t.kind=5:=by simpa using h5
   have ho:lz t.kind t.size t.packed t.fields.length t.count t.elem.length=(t.size==0&&!t.packed&&t.fields.length==0&&t.elem.length==1):=by unfold lz;rw[if_neg (by omega),if_neg (by omega),if_pos tW]
   rw[ho,if_neg ij,if_neg eZ,if_pos tW]at fin;clear ho;have k9:(t.size==0&&!t.packed&&t.fields.length==0&&t.elem.length==1)=true→ak (S.UR Φ (.av t.cells) Q) [] H:=by
    intro hc;rw[hc]at fin;simp only[Bool.true_eq_false,if_false]at fin;obtain ⟨e,fA⟩:∃e,t.elem=[e]:=by simp only[Bool.and_eq_true,beq_iff_eq]at hc;exact List.length_eq_one_iff.1 hc.2
    have k8:∀b:Bool,(b=true↔(t.count<1∨65536<t.count))→ak (S.Pa Φ (.av t.cells) Q) [.bool b] H:=by
     intro b hb;simp only[aG,S.Pa,aA,aD];refine aN (fun h=>?_) (fun h=>?_)
     ·exact fin _ _ (by rw[if_pos (hb.1 h)])
     · rw[if_neg fun x=>h (hb.2 x)]at fin;simp only[S.ad3,dt,nt,aa];have ha:bj none 6 (aQ aE.cells t.elem) (.int .i64 0)=some (iB aE.cells 6 t.elem 0):=d_ (by rw[fA];simp);rw[ha];simp only[aa];rw[gO aE.len (by decide) _ (show t.elem[0]?=some e by rw[fA];rfl)];simp only[aa];refine he e (by rw[fA];simp) _ _ ?_;exact fin _ _ (by rw[fA];rfl)
    simp only[aG,S.UR,dt,Aw,aa,bF,cj,eY];refine qM (fun h=>?_) (fun h=>?_)
    · refine k8 _ ?_;have h':¬t.count<1:=by simpa using h
      simp only[decide_eq_true_eq,gt_iff_lt];omega
    · refine k8 _ ?_;have h':t.count<1:=by simpa using h
      simp only[true_iff];omega
   have lU:∀b:Bool,b=!(t.size==0&&!t.packed&&t.fields.length==0&&t.elem.length==1)→ak (S.Nn Φ (.av t.cells) Q) [.bool b] H:=by
    intro b hb;simp only[aG,S.Nn,aA,aD];refine kL (fun h=>?_) (fun h=>?_)
    · refine fin _ _ ?_;rw[h]at hb;rw[if_pos (by first|exact qx hb|exact qt hb)]
    · rw[h]at hb;exact k9 (by first|exact qx hb|exact qt hb)
   have avo:((t.elem.length:Int) != 1)=!(t.elem.length==1):=by rw[Bool.eq_iff_iff];simp;omega
   have iK:∀b:Bool,b=!(t.size==0&&!t.packed&&t.fields.length==0)→ak (S.Np Φ (.av t.cells) Q) [.bool b] H:=by
    intro b hb;simp only[aG,S.Np,aA,cj,dt,nt,cu,eK,aa,avo];refine qM (fun h=>?_) (fun h=>?_)
    · refine lU _ ?_;rw[h]at hb;have:(t.size==0&&!t.packed&&t.fields.length==0)=true:=by first|exact qx hb|exact qt hb
      rw[this];rfl
    · refine lU _ ?_;rw[h]at hb;have:(t.size==0&&!t.packed&&t.fields.length==0)=false:=by first|exact qx hb|exact qt hb
      rw[this];rfl
   have nI:∀b:Bool,b=!(!t.packed&&t.fields.length==0)→ak (S.Nq Φ (.av t.cells) Q) [.bool b] H:=by
    intro b hb;simp only[aG,S.Nq,aA,cj,dt,vy,eK,aa];refine qM (fun h=>?_) (fun h=>?_)
    · refine iK _ ?_;rw[h]at hb;have:(!t.packed&&t.fields.length==0)=true:=by first|exact qx hb|exact qt hb
      rw[Bool.and_assoc,this,Bool.and_true];rfl
    · refine iK _ ?_;rw[h]at hb;have:(!t.packed&&t.fields.length==0)=false:=by first|exact qx hb|exact qt hb
      rw[Bool.and_assoc,this,Bool.and_false];rfl
   simp only[dt,xq,kV,aa,cj,cu,eY,Qm];refine qM (fun h=>?_) (fun h=>?_)
   ·exact nI _ (by rw[h];rfl)
   ·exact nI _ (by rw[h];rfl)
 have tW:t.kind≠5:=by simpa using h5
 rw[if_neg ij,if_neg eZ,if_neg tW]at fin;have Lm : ∀ b : Bool, (b=true↔(t.kind=3∨t.kind=4))→ak (S.Nw Φ (.av t.cells) Q) [.bool b] H:=by
  intro b hb;simp only[aG,S.Nw,aA,aD];refine aN (fun hg=>?_) (fun hg=>?_)
  · have hk := hb.1 hg;have ho:lz t.kind t.size t.packed t.fields.length t.count t.elem.length=(t.size==0&&t.count==0&&t.elem.length==0):=by
     unfold lz;rw[if_neg (by omega),if_pos hk]
    rw[ho]at fin;clear ho;have k27 : (t.size == 0&&t.count==0&&t.elem.length==0)=true→ak (S.TK Φ (.av t.cells) Q) [] H:=by
     intro hc;rw[hc]at fin;simp only[Bool.true_eq_false,if_false]at fin;have k26 : ∀ b : Bool,(b=true↔(t.fields.length<1∨32<t.fields.length))→ak (S.Nt Φ (.av t.cells) Q) [.bool b] H:=by
      intro b hb;simp only[aG,S.Nt,aA,aD];refine aN (fun h=>?_) (fun h=>?_)
      ·exact fin _ _ (by rw[if_pos (hb.1 h)])
      · have hn : ¬ (t.fields.length<1∨32<t.fields.length):=fun x=>h (hb.2 x);rw[if_neg hn]at fin;simp only[S.ab7];have main : ∀ (r : List aP) (i:Nat) (H1:AH),t.fields.drop i=r→kU t.packed ((t.fields.take i).map aP.name) r=kU t.packed [] t.fields→aB (S.Ea Φ (.av t.cells) Q) ([.int .i64 i],H1):=by
         intro r;induction r with
         | nil=>intro i H1 hd hs;have hle:=fe hd;refine aB.step ?_;simp only[S.Ea,aA,dt,kV,cu,aa,bF,aD];rw[if_neg (by simp only[decide_eq_true_eq];omega)];exact fin _ _ (by rw[←hs];rfl)
         | cons f r ih =>
          intro i H1 hd hs;obtain⟨aO,hi,bC⟩:=eX hd;refine aB.step ?_;simp only[S.Ea,aA,dt,kV,cu,aa,bF,aD];rw[if_pos (by simp only[decide_eq_true_eq];omega),d_ aO];simp only[aa];rw[gO aP.len (by decide) _ hi];simp only[aa,bw,be,if_true];rw[fC _ _ _ 9 f.len f.scalar rfl];simp only[aa,ab,Nat.add_zero,Nat.zero_add];have r0:J (H1.push (.row f.cells)) 1 false (.ptr H1.n 0)=some (.str f.name):=by rw[jQ,Fb]
          have r7:J (H1.push (.row f.cells)) 1 false (.ptr H1.n 7)=some (.bool f.bits):=by rw[jQ,Vv]
          have r8:J (H1.push (.row f.cells)) 1 false (.ptr H1.n 8)=some (.int .i64 f.width):=by rw[jQ,agh]
          have r1:J (H1.push (.row f.cells)) 6 true (.ptr H1.n 1)=some (.agg f.type.cells):=by rw[jQ,Qk]
          have rk:J (H1.push (.row f.cells)) 1 false (.ptr H1.n 1)=some (.int .i64 f.type.kind):=by rw[jQ,Wb]
          have rs:J (H1.push (.row f.cells)) 1 false (.ptr H1.n 2)=some (.int .i64 f.type.size):=by rw[jQ,ag6]
          generalize H1.push (.row f.cells)=H2 at *;generalize H1.n=id at *;simp only[kU]at hs;have bad:∀v H',v=mT t.packed ((t.fields.take i).map aP.name) f→v≠0→Q (.int .i64 v) H':=fun v H' hv Dw=>by refine fin _ _ ?_;rw[←hs,if_pos (by rw[←hv];exact Dw),hv]
          have y5:mT t.packed ((t.fields.take i).map aP.name) f=0→ak (S.TI Φ ([.int .i64 i],H1) (aB (S.Ea Φ (.av t.cells) Q)) Q) [] H2:=by intro hz;rw[if_neg (by simpa using hz)]at hs;simp only[aG,S.TI,aA,cp,aa];rw[wrap_i64 (by omega) (by omega),show((i:Int)+1)=((i+1:Nat):Int) by simp];refine ih (i+1) H2 bC ?_;rw[List.take_add_one,hi];simpa using hs
          generalize hL:(aB (S.Ea Φ (.av t.cells) Q))=L at *;have YN : ¬ (gH f.name=false∧(f.name≠[]∨f.bits=false))→¬(f.name≠[]∧((t.fields.take i).map aP.name).contains f.name=true)→ak (S.TJ Φ (.av t.cells) (.ptr id 0) ([.int .i64 i],H1) L Q) [] H2:=by
           intro n1 n2;rw[wY,if_neg n1,if_neg n2]at bad y5;simp only[aG,S.TJ,ab,Nat.zero_add,aa,r1];refine hf f (List.mem_of_getElem? hi) _ _ ?_;simp only[eK,aa,aD];refine aN (fun h=>?_) (fun h=>?_)
           · have h':ed f.type≠0:=by simpa using h
             exact bad _ _ (by rw[if_pos h']) h'
           · have h0 : ed f.type=0:=by simpa using h
             rw[if_neg (by simpa using h0)]at bad y5;have DB : ∀ b:Bool,(b=true↔((f.bits=false∧f.width≠0)∨(f.bits=true∧(f.type.kind≠1∨t.packed=true))))→ak (S.D9 Φ (.ptr id 0) ([.int .i64 i],H1) L Q) [.bool b] H2:=by
              intro b hb;simp only[aG,S.D9,aA,aD];refine aN (fun h=>?_) (fun h=>?_)
              ·exact bad _ _ (by rw[if_pos (hb.1 h)]) (by decide)
              · have hn8 : ¬((f.bits=false∧f.width≠0)∨(f.bits=true∧(f.type.kind≠1∨t.packed=true))):=fun x=>h (hb.2 x);rw[if_neg hn8]at bad y5;have zR:∀b:Bool,(b=true↔(f.bits=true∧(f.width<0∨8*f.type.size<f.width∨(f.width=0∧f.name≠[]))))→ak (S.BK Φ ([.int .i64 i],H1) L Q) [.bool b] H2:=by
                 intro b hb;simp only[aG,S.BK,aA,aD];refine aN (fun h=>?_) (fun h=>?_)
                 ·exact bad _ _ (by rw[if_pos (hb.1 h)]) (by decide)
                 ·exact y5 (by rw[if_neg fun x=>h (hb.2 x)])
                simp only[S.ab5,ab,Nat.zero_add,aa,r7,ck];refine aN (fun du=>?_) (fun du=>?_)
                · have ij:f.type.kind=1:=by
                    by_cases hk:f.type.kind=1
                    ·exact hk
                    ·exact absurd (.inr ⟨du,.inl hk⟩) hn8
                  have gN:1≤f.type.size∧f.type.size≤8:=by
                   rw[m9,ij]at h0;split at h0
                   ·cases h0
                   · simp only[if_true]at h0;split at h0
                     · rename_i hp;simp[gJ]at hp;omega
                     ·cases h0
                  simp only[r8,bF,aa,cj];refine aN (fun hw=>?_) (fun hw=>?_)
                  · simp only[rs,aa,m7];rw[wrap_i64 (by omega) (by omega)];simp only[eY,aa,cj];refine aN (fun wD=>?_) (fun wD=>?_)
                    · simp only[cn,aa,ck];refine aN (fun wE=>?_) (fun wE=>?_)
                      · simp only[Nat.add_zero,r0,aa,yw];refine zR _ ?_;simp only[decide_eq_false_iff_not,gt_iff_lt,beq_iff_eq]at hw wD wE;simp[du,wE];omega
                      · refine zR _ ?_;simp only[decide_eq_false_iff_not,gt_iff_lt,beq_iff_eq]at hw wD wE;simp[du,wE];omega
                    · refine zR _ ?_;simp only[decide_eq_false_iff_not,Decidable.not_not,gt_iff_lt]at wD;simp[du,wD]
                  · refine zR _ ?_;simp only[decide_eq_false_iff_not,Decidable.not_not]at hw;simp[du,hw]
                · refine zR _ ?_;simp[du]
             have Lk : ∀b:Bool,(b=true↔(f.bits=false∧f.width≠0))→ak (S.Ns Φ (.av t.cells) (.ptr id 0) ([.int .i64 i],H1) L Q) [.bool b] H2:=by
              intro b hb;simp only[aG,S.Ns,aA,cj,ab,Nat.zero_add,aa,r7];refine aN (fun h=>?_) (fun h=>?_)
              · have hn:¬(f.bits=false∧f.width≠0):=fun x=>by rw[hb.2 x]at h;cases h
                simp only[ck];refine aN (fun du=>?_) (fun du=>?_)
                · have Dp:J H2 1 false (.av (t.cells.drop 2))=some (.bool t.packed):=xq t H2;simp only[Dp,aa];refine aN (fun hp=>?_) (fun hp=>?_)
                  · simp only[Nat.add_zero,rk,aa,eK];refine DB _ ?_;simp[du,hp]
                  · refine DB _ ?_;simp only[Bool.not_eq_false]at hp;simp[du,hp]
                · refine DB _ ?_;simp only[Bool.not_eq_true]at du;simp only[du]at hn ⊢;simp at hn;simp[hn]
              · refine DB _ ?_;have:=hb.1 (by simpa using h);simp[this]
             simp only[r7,gk,aa,ck,r8,eK];refine aN (fun du=>?_) (fun du=>?_)
             · refine Lk _ ?_;simp only[Bool.not_eq_true']at du;simp[du]
             · refine Lk _ ?_;simp only[Bool.not_eq_true',Bool.not_eq_false]at du;simp[du]
          have YO : ∀b:Bool,(b=true↔(gH f.name=false∧(f.name≠[]∨f.bits=false)))→ak (S.HM Φ (.av t.cells) (.ptr id 0) ([.int .i64 i],H1) L Q) [.bool b] H2:=by
           intro b hb;simp only[aG,S.HM,aA,aD];refine aN (fun h=>?_) (fun h=>?_)
           ·exact bad _ _ (by rw[wY,if_pos (hb.1 h)]) (by decide)
           · have n1 : ¬(gH f.name=false∧(f.name≠[]∨f.bits=false)):=fun x=>h (hb.2 x);simp only[S.ab6];have inner:∀(d k:Nat),k+d=i→(∀w∈t.fields.take k,¬(f.name≠[]∧w.name=f.name))→aB (S.HN Φ (.av t.cells) (.ptr id 0) ([.int .i64 i],H1) L Q) ([.int .i64 k],H2):=by
              intro d;induction d with
              | zero=>
               intro k hk hw;refine aB.step ?_;simp only[S.HN,aA,bF,aa,aD];rw[if_neg (by simp only[decide_eq_true_eq];omega)];refine YN n1 fun x=>?_;obtain⟨x1,x2⟩:=x;rw[List.contains_iff_mem,List.mem_map]at x2;obtain⟨w,hwm,hwn⟩:=x2;have A_:k=i:=by omega
               rw[A_]at hw;exact hw w hwm ⟨x1,hwn⟩
              | succ d Ld=>
               intro k hk hw;have aha:k<t.fields.length:=by omega
               obtain⟨w,Yv⟩:∃w,t.fields[k]?=some w:=⟨_,List.getElem?_eq_getElem aha⟩
               refine aB.step ?_;simp only[S.HN,aA,bF,aa,aD];rw[if_pos (by simp only[decide_eq_true_eq];omega)];simp only[ab,Nat.add_zero,r0,aa,yw,ck];have vb:∀b:Bool,(b=true↔(f.name≠[]∧w.name=f.name))→ak (S.Nr Φ ([.int .i64 k],H2) (aB (S.HN Φ (.av t.cells) (.ptr id 0) ([.int .i64 i],H1) L Q)) Q) [.bool b] H2:=by
                intro b hb;simp only[aG,S.Nr,aA,aD];refine aN (fun h=>?_) (fun h=>?_)
                · obtain ⟨x1,x2⟩:=hb.1 h;refine bad _ _ ?_ (by decide);have hc:((t.fields.take i).map aP.name).contains f.name=true:=by
                   rw[List.contains_iff_mem,List.mem_map];refine⟨w,?_,x2⟩;have:(t.fields.take i)[k]?=some w:=by rw[List.getElem?_take,if_pos (by omega)];exact Yv
                   exact List.mem_of_getElem? this
                  rw[wY,if_neg n1,if_pos ⟨x1,hc⟩]
                · simp only[S.ab4,aA,cp,aa];rw[wrap_i64 (by omega) (by omega),show((k:Int)+1)=((k+1:Nat):Int) by simp];refine Ld (k+1) (by omega) fun w' u_=>?_;rw[List.take_add_one,Yv]at u_;rcases List.mem_append.1 u_ with u_|u_
                  ·exact hw w' u_
                  · simp at u_;subst u_;exact fun x=>h (hb.2 x)
               refine kL (fun bU=>?_) (fun bU=>?_)
               · have wv:J H2 1 false (.av (t.cells.drop 3))=some (aQ aP.cells t.fields):=kV t H2;simp only[wv,aa];rw[d_ aha];simp only[aa,iB,ab,Z4 H2 Yv,Nat.add_zero,r0,lq];refine vb _ ?_;have:f.name≠[]:=by simpa using bU
                 simp[this]
               · refine vb _ ?_;have:f.name=[]:=by simpa using bU
                 simp[this]
             exact inner i 0 (by omega) fun w hw=>by simp at hw
          simp only[r0,aa];refine S.Un hT (Se ?_);simp only[gk,aa,ck];refine kL (fun hn=>?_) (fun hn=>?_)
          · have sD:gH f.name=false:=by simpa using hn
            simp only[r0,aa,lq,ck];refine kL (fun he=>?_) (fun he=>?_)
            · simp only[r7,aa,gk];refine YO _ ?_;have:f.name=[]:=by simpa using he
              have h0:gH []=false:=rfl;simp[this,h0]
            · refine YO _ ?_;have:f.name≠[]:=by simpa using he
              simp[sD,this]
          · refine YO _ ?_;have sD:gH f.name=true:=by simpa using hn
            simp[sD]
        exact main t.fields 0 H rfl rfl
     simp only[aG,S.TK,dt,kV,cu,aa,cn,cj,eY];refine qM (fun h=>?_) (fun h=>?_)
     · refine k26 _ ?_;simp only[beq_eq_false_iff_ne,ne_eq]at h;simp only[decide_eq_true_eq,gt_iff_lt];omega
     · refine k26 _ ?_;simp only[beq_iff_eq]at h;simp only[true_iff];omega
    have k28:∀b:Bool,b=!(t.size==0&&t.count==0&&t.elem.length==0)→ak (S.Nu Φ (.av t.cells) Q) [.bool b] H:=by
     intro b hb;simp only[aG,S.Nu,aA,aD];refine kL (fun h=>?_) (fun h=>?_)
     · refine fin _ _ ?_;rw[h]at hb;rw[if_pos (by first|exact qx hb|exact qt hb)]
     · rw[h]at hb;exact k27 (by first|exact qx hb|exact qt hb)
    have k29:∀b:Bool,b=!(t.size==0&&t.count==0)→ak (S.Nv Φ (.av t.cells) Q) [.bool b] H:=by
     intro b hb;simp only[aG,S.Nv,aA,cj,dt,nt,cu,eY,aa,Qm];refine qM (fun h=>?_) (fun h=>?_)
     · refine k28 _ ?_;rw[h]at hb;have:(t.size==0&&t.count==0)=true:=by first|exact qx hb|exact qt hb
       rw[this];rfl
     · refine k28 _ ?_;rw[h]at hb;have:(t.size==0&&t.count==0)=false:=by first|exact qx hb|exact qt hb
       rw[this];rfl
    simp only[dt,vy,Aw,aa,eK,cj];refine qM (fun h=>?_) (fun h=>?_)
    · refine k29 _ ?_;have:(t.size==0)=true:=by simpa using h
      rw[this];rfl
    · refine k29 _ ?_;have:(t.size==0)=false:=by simpa using h
      rw[this];rfl
  · have hk:¬(t.kind=3∨t.kind=4):=fun x=>hg (hb.2 x);refine fin _ _ ?_;have:lz t.kind t.size t.packed t.fields.length t.count t.elem.length=false:=by unfold lz;rw[if_neg (by omega),if_neg hk,if_neg tW]
    rw[if_pos this]
 refine kL (fun h3=>?_) (fun h3=>?_)
 · refine Lm _ ?_;rw[h3];simp only[beq_iff_eq]at h3;simp[h3]
 · refine Lm _ ?_;simp only[beq_eq_false_iff_ne,ne_eq]at h3;simp[h3]
end
section
variable{C:Ctx}(aw:dz C)(hT:Cl (au C) S.cH)
include aw hT
theorem akA:∀(m:Nat),1≤m→m≤65→∀t:aE,t.ok→cG (au C) K.f59 [.agg t.cells,.int .i64 m] (.int .i64 (im m t)):=by
 intro m;induction m with
 |zero=>intro h;omega
 | succ m ih=>intro _ hm t ht;obtain⟨h1,h2,h3,h4⟩:=Rb.eS ht;exact fun H Q hQ=>S.ari hT (akc (by omega) hm h1 h3 (fun h f hf=>ih (by omega) (by omega) f.type (h2 f hf)) (fun h e he=>ih (by omega) (by omega) e (h4 e he)) hQ)
theorem akC:∀t:aE,t.ok→cG (au C) K.f60 [.agg t.cells] (.int .i64 (ed t)):=by refine aE.ind fun t mH k_ ht=>?_;obtain⟨h1,h2,h3,h4⟩:=Rb.eS ht;exact cG.of aw (by simp[AV.dD,AV.cD,aE.cD]) rfl fun Q hQ=>S.arj hT (ake hT h1 (fun f hf=>mH f hf (h2 f hf)) (fun e he=>k_ e he (h4 e he)) hQ)
theorem ZD(t:aE)(ht:t.ok):cG (au C) K.f32 [.agg t.cells] (.int .i64 (iI t)):=by
 intro H Q hQ;refine S.aqR hT ?_;unfold S.f32;simp only[lu,bw,qT,aa];refine akA aw hT 65 (by omega) (by omega) t ht _ _ ?_;simp only[eY,aa,aD];unfold iI at hQ;refine aN (fun h=>?_) (fun h=>?_)
 ·rw[if_pos (by simpa using h)]at hQ;exact hQ
 · rw[if_neg (by simpa using h)]at hQ;exact akC aw hT t ht _ _ hQ
end
end Rb

namespace Rb
open Go
section
variable{C:Ctx}(aw:dz C)(hT:Cl (au C) S.cH)
include aw hT
theorem ZB(t:aE)(ht:t.ok):cG (au C) K.f15 [.agg t.cells] (.int .i64 (cd t).2):=by
 refine cG.of aw (by simp[AV.dD,AV.cD,aE.cD]) rfl fun Q hQ=>S.aqF hT ?_;unfold S.f15;unfold cd at hQ;simp only[lu,bw,qT,aa];refine ZD aw hT t ht _ _ ?_;simp only[cn,aa,ck,aG];refine aN (fun h=>?_) (fun h=>?_)
 · have h:iI t=0:=by simpa using h
   rw[if_neg (by simpa using h)]at hQ;refine anp aw hT t ht _ _ ?_;unfold S.N5;simp only[aA,aD,aG];refine aN (fun q=>?_) (fun q=>?_)
   · rw[if_pos q]at hQ;unfold S.Ic;simp only[aA,cn,aa,ck,aG,S.Ib,aD];rw[if_neg (by decide),if_neg (by decide)];exact hQ _
   · rw [if_neg q]at hQ;unfold S.Ic;simp only[aA,cn,aa,ck,aG,h];rw[if_pos (by decide)];rw[qT];simp only[aa];refine abD aw hT t (sW h) _ _ fun sz al l1 l2 o1 o2 lg H' E i1 i2 hg hb=>?_;rw[show yD 4 1 false (.agg (cX sz al o1 o2 lg))=some (.bool lg)from rfl];simp only[aa,S.Ib,aA,aD];cases ho:(bh t).2 with
     | true=>rw[(hg ho).1,if_neg (by decide)];rw[if_neg (by rw[ho];decide)]at hQ;exact hQ _
     | false=>rw[hb ho,if_pos rfl];rw[if_pos ho]at hQ;exact hQ _
 · have h':iI t≠0:=by simpa using h
   rw[if_pos h']at hQ;unfold S.N5;simp only[aA,aD,aG];rw[if_neg (by decide)];unfold S.Ic;simp only[aA,cn,aa,ck,aG,S.Ib,aD];rw[if_neg (by simpa using h'),if_neg (by decide)];exact hQ _
end
end Rb

namespace Rb
open Go
def oh(a:Int)(v:aK):Int:=bD a (cd v.type).1.2
def lH:Int→List aK→Int
 |a,[]=>a
 |a,v::r=>lH (oh a v+(cd v.type).1.1) r
def EK:Int→List aK→List AV
 |_,[]=>[]
 |a,v::r=> .str v.name :: .int .i64 (65536+oh a v) :: .int .i64 (cd v.type).1.1::EK (oh a v+(cd v.type).1.1) r
theorem abd{t:aE}(h:(cd t).2=0):iI t=0∧(bh t).2=true∧(cd t).1=(bh t).1:=by
 unfold cd at h ⊢;split at h
 ·rename_i q;exact absurd h q
 · rename_i q;rw[if_neg q];split at h
   ·cases h
   · rename_i q2;rw[if_neg q2];split at h
     ·cases h
     · rename_i q3;rw[if_neg q3];exact⟨by simpa using q,by simpa using q3,rfl⟩
theorem Mg{t:aE}(h:(cd t).2=0):0≤(cd t).1.1∧(cd t).1.1≤65536∧1≤(cd t).1.2∧(cd t).1.2≤16:=by obtain⟨h1,h2,h3⟩:=abd h;rw[h3];exact VJ t (sW h1) h2
theorem T8:∀{l:List aK}{a:Int},(∀v∈l,(cd v.type).2=0)→a≤lH a l
 |[],a,_=>Int.le_refl _
 | v::r,a,h=>by have hb:=Mg (h v (List.mem_cons_self ..));have hu:=lv (n:=a) (step:=(cd v.type).1.2) (by omega);have:=T8 (l:=r) (a:=oh a v+(cd v.type).1.1) (fun w hw=>h w (List.mem_cons_of_mem _ hw));rw[lH];unfold oh at this ⊢;omega
section
variable{C:Ctx}(aw:dz C)(hT:Cl (au C) S.cH)
include aw hT
theorem Ud{vars:List aK}{i:Nat}{v:aK}(h:vars[i]?=some v):∃p q r,bj none 7 (aQ aK.cells vars) (.int .i64 i)=some p∧ab 0 p=some q∧ab 1 p=some r∧(∀H,J H 1 false q=some (.str v.name))∧∀H,J H 6 true r=some (.agg v.type.cells):=by
 have aO:=(List.getElem?_eq_some_iff.1 h).1;have hd:(vars.flatMap aK.cells).drop (i*7)=v.cells++(vars.drop (i+1)).flatMap aK.cells:=by rw[TN aK.len];rw[List.drop_eq_getElem_cons aO,List.flatMap_cons];rw[List.getElem?_eq_getElem aO]at h;cases h;rfl
 refine⟨_,_,_,d_ aO,rfl,rfl,fun H=>?_,fun H=>?_⟩
 · show cC (((vars.flatMap aK.cells).drop (i*7)).drop 0) 0 1 false=_;rw[hd];cases v with
   |mk name type=>rfl
 · show cC (((vars.flatMap aK.cells).drop (i*7)).drop 1) 0 6 true=_;rw[hd];cases v with
   | mk name type=>show cC (type.cells++_) 0 6 true=_;exact Bq type.len
theorem am6{vars:List aK}(hl:vars.length≤32)(ho:∀v∈vars,v.ok)(hv:∀v∈vars,(cd v.type).2=0){H:AH}{Q:ae}
  (hQ:∀ox H',AH.Ext H H'→(∃tk,ox = .aq tk vars.length (EK 0 vars))→lH 0 vars≤65536→Q (.aM [ox,.int .i64 (lH 0 vars),.int .i64 0]) H') (hQ9:∀H',AH.Ext H H'→¬lH 0 vars≤65536→Q (.aM [.aq .nil 0 [],.int .i64 0,.int .i64 9]) H') :
  au C K.f16 [aQ aK.cells vars] H Q:=by
 refine S.aqG hT ?_;unfold S.f16;have second:∀(r:List aK)(k:Nat)(a:Int)(ox:AV)(done:List AV)(H5:AH),vars.drop k=r→k≤vars.length→AH.Ext H H5→cU H.n H5 3 ox k done→0≤a→a≤65536→lH a r=lH 0 vars→done++EK a r=EK 0 vars →
   aB (S.Eu (au C) (aQ aK.cells vars) Q) ([ox,.int .i64 a,.int .i64 k],H5):=by
  intro r;induction r with
  | nil=>intro k a ox done H5 hd hk E5 h1 a0 a1 he hg;have hle:=fe hd;refine aB.step ?_;simp only[S.Eu,aA,cv,cu,aa,bF,aD,aG,S.adL];rw[if_neg (by simp only[decide_eq_true_eq];omega)];obtain⟨tk,e,_⟩:=h1;rw[lH]at he;rw[he];refine hQ _ _ E5 ⟨tk,?_⟩ (by rw[←he];exact a1);rw[EK,List.append_nil]at hg;rw[e,hg,show k=vars.length by omega]
  | cons v r ih=>
   intro k a ox done H5 hd hk E5 h1 a0 a1 he hg;obtain⟨aO,hx,bC⟩:=eX hd;have gI:=List.mem_of_getElem? hx;obtain⟨p,q,q',e1,e2,e3,e4,e5⟩:=Ud aw hT hx;obtain⟨g1,g2,g3⟩:=abd (hv v gI);obtain⟨b1,b2,b3,b4⟩:=Mg (hv v gI);refine aB.step ?_;simp only[S.Eu,aA,cv,cu,aa,bF,aD];rw[if_pos (by simp only[decide_eq_true_eq];omega)];simp only[e1,e3,e5,aa];refine abD aw hT v.type (sW g1) _ _ fun sz al l1 l2 oa ob lg H7 E7 i1 i2 iT hb=>?_;obtain⟨-,z2,z3,-⟩:=iT g2;rw[←g3]at z2 z3;simp only[be,if_true,bw];rw[fC H7 _ (cX sz al oa ob lg) 5 rfl (LW i1 i2) rfl];have x8:=At.new H7 (.row (cX sz al oa ob lg));have E8:=E5.trans (E7.trans (AH.Ext.push H7 (.row (cX sz al oa ob lg))));have o8:=h1.frame (H':=H7.push (.row (cX sz al oa ob lg))) (fun t _ _ h=>(h.ext E7).push _);simp only[aa];generalize H7.push (.row (cX sz al oa ob lg))=H8 at *;rw[z2,z3]at x8;rw[lH]at he;rw[EK]at hg;unfold oh at he hg;generalize (cd v.type).1=g at *;obtain⟨gs,ga⟩:=g;dsimp only at *;have hu:=lv (n:=a) (step:=ga) (by omega);have k2:S.Ux (au C) (aQ aK.cells vars) (.ptr H7.n 0) ([ox,.int .i64 a,.int .i64 k],H5) (aB (S.Eu (au C) (aQ aK.cells vars) Q)) Q [.int .i64 (bD a ga)] H8:=by
    unfold S.Ux;simp only[aA,cv,e1,e2,e4,aa,cp];simp only[ab,Nat.zero_add,(o3 x8).1,aa];rw[wrap_i64 (n:=65536+bD a ga) (by omega) (by omega)];rw[show bJ [.int .i64 0,.int .i64 0] [(0,1,.int .i64 (65536+bD a ga)),(1,1,.int .i64 gs)]=some (.agg [.int .i64 (65536+bD a ga),.int .i64 gs])from rfl];simp only[aa];rw[show bJ [.str [],.int .i64 0,.int .i64 0] [(0,1,.str v.name),(1,2,.agg [.int .i64 (65536+bD a ga),.int .i64 gs])]=some (.agg [.str v.name,.int .i64 (65536+bD a ga),.int .i64 gs])from rfl];simp only[aa];rw[show fb H8 false 3 1 [.str [],.int .i64 0,.int .i64 0] [(0,3,.agg [.str v.name,.int .i64 (65536+bD a ga),.int .i64 gs])]=some (.aq .full 1 [.str v.name,.int .i64 (65536+bD a ga),.int .i64 gs],H8)from rfl];simp only[bw];refine o8.JD E8.1 (m:=1) (news:=[.str v.name,.int .i64 (65536+bD a ga),.int .i64 gs]) rfl rfl rfl (by decide) (by omega) (by omega) fun H9 o9 n9 zS=>?_;have x9:=zS _ _ x8 (o8.yH x8);have E9:=Ext.aY E8 (Nat.le_of_lt n9) (fun i o hi h=>zS i o h (o8.low hi));simp only[ab,Nat.zero_add,(o3 x9).1,aa,cp];rw[wrap_i64 (n:=bD a ga+gs) (by omega) (by omega)];simp only[aa,eY,aD];refine aN (fun z=>?_) (fun z=>?_)
    · have z:bD a ga+gs>65536:=of_decide_eq_true z;have:=T8 (l:=r) (a:=bD a ga+gs) (fun w hw=>hv w (by
        have:w∈vars.drop (k+1):=by rw[bC];exact hw
        exact List.mem_of_mem_drop this))
      exact hQ9 H9 E9 (by omega)
    · have z:¬bD a ga+gs>65536:=fun q=>z (decide_eq_true q);simp only[aG,S.adK,aA,cv,cp,aa];rw[wrap_i64 (n:=(k:Int)+1) (by omega) (by omega),show(k:Int)+1=((k+1:Nat):Int) by simp];refine ih (k+1) _ _ (done++[.str v.name,.int .i64 (65536+bD a ga),.int .i64 gs]) H9 bC (by omega) E9 o9 (by omega) (by omega) he ?_;rw[←hg];simp
   have loop:∀(m:Nat)(b:Int),0≤b→bD b ga=bD a ga→(bD a ga-b).toNat=m→aB (S.N6 (au C) (aQ aK.cells vars) (.ptr H7.n 0) ([ox,.int .i64 a,.int .i64 k],H5) (aB (S.Eu (au C) (aQ aK.cells vars) Q)) Q) ([.int .i64 b],H8):=by
    intro m;induction m with
    | zero=>
     intro b rC kZ hm;have hb:=lv (n:=b) (step:=ga) (by omega);have KN:=Af (n:=b) (step:=ga) (by omega);have Gk:b=bD a ga:=by omega
     refine aB.step ?_;simp only[S.N6,aA,ab,Nat.zero_add,(o3 x8).2.1,aa];rw[vi .i64 _ _ (by omega),Int.tmod_eq_emod_of_nonneg rC];have hz:b%ga=0:=by
      have:b=bD b ga:=by omega
      rw[this];exact KN
     simp only[aa,eK,hz,aD];rw[if_neg (by decide),Gk];exact k2
    | succ m GC=>
     intro b rC kZ hm;have hb:=lv (n:=b) (step:=ga) (by omega);refine aB.step ?_;simp only[S.N6,aA,ab,Nat.zero_add,(o3 x8).2.1,aa];rw[vi .i64 _ _ (by omega),Int.tmod_eq_emod_of_nonneg rC];have hz:b%ga≠0:=fun q=>by have:=Th (b:=b) (s:=ga) (by omega) q;omega
     simp only[aa,eK,aD];rw[if_pos (by simpa using hz)];simp only[cp,aa];rw[wrap_i64 (by omega) (by omega)];exact GC (b+1) (by omega) (by rw[Tg (by omega) hz];exact kZ) (by omega)
   exact loop _ a a0 rfl rfl
 have first:∀(r:List aK)(k:Nat),vars.drop k=r→aB (S.N7 (au C) (aQ aK.cells vars) Q) ([.int .i64 k],H):=by
  intro r;induction r with
  | nil=>intro k hd;have hle:=fe hd;refine aB.step ?_;simp only[S.N7,aA,cu,aa,bF,aD,aG,S.adM];rw[if_neg (by simp only[decide_eq_true_eq];omega)];exact second vars 0 0 _ [] H rfl (Nat.zero_le _) (AH.Ext.refl H) (cU.nil _ _ _) (Int.le_refl _) (by decide) rfl rfl
  | cons v r ih=>intro k hd;obtain⟨aO,hx,bC⟩:=eX hd;have gI:=List.mem_of_getElem? hx;obtain⟨p,q,q',e1,e2,e3,e4,e5⟩:=Ud aw hT hx;refine aB.step ?_;simp only[S.N7,aA,cu,aa,bF,aD];rw[if_pos (by simp only[decide_eq_true_eq];omega)];simp only[e1,e3,e5,aa];refine ZB aw hT v.type (ho v gI).2 _ _ ?_;rw[hv v gI];simp only[eK,aa,aD];rw[if_neg (by decide)];simp only[cp,aa];rw[wrap_i64 (by omega) (by omega),show(k:Int)+1=((k+1:Nat):Int) by simp];exact ih (k+1) bC
 exact first vars 0 rfl
end
end Rb

namespace Rb
open Go
end Rb

namespace Rb
open Go
def bt(a:Int)(i:Nat):Bool:=a.toNat.testBit i
section
variable{C:Ctx}(aw:dz C)(hT:Cl (au C) S.cH)
include aw hT
end
end Rb

namespace Rb
open Go
def rL:Int→List aK→List ec
 |_,[]=>[]
 |a,v::r=>⟨65536+oh a v,(cd v.type).1.1,0,false,0,0⟩::rL (oh a v+(cd v.type).1.1) r
theorem afH:∀{l:List aK}{a:Int}{acc:List ec},0≤a→a≤65536→(∀v∈l,(cd v.type).2=0)→lH a l≤65536→lD l a acc=(0,lH a l,acc++rL a l)
 |[],a,acc,h0,h1,hv,he=>by rw[lD,lH,rL,List.append_nil]
 | v::r,a,acc,h0,h1,hv,he=>by
  have hz:=hv v (List.mem_cons_self ..);have u7:∀v∈r,(cd v.type).2=0:=fun w hw=>hv w (List.mem_cons_of_mem _ hw);obtain⟨b1,b2,b3,b4⟩:=Mg hz;have hu:=lv (n:=a) (step:=(cd v.type).1.2) (by omega);rw[lH]at he ⊢;have hle:=T8 (a:=oh a v+(cd v.type).1.1) u7;have hr:oh a v=bD a (cd v.type).1.2:=rfl;have hup:DJ a v=oh a v:=by have e:aR (aR (Int.tdiv (aR (aR (a+(cd v.type).1.2)-1)) (cd v.type).1.2)*(cd v.type).1.2)=oh a v:=Ay h0 (by omega) (by omega) (by omega);unfold DJ;rw[e,if_neg (by omega)]
  rw[aaJ,if_neg (by rw[hz];decide),hup];rw[show aR (oh a v+(cd v.type).1.1)=oh a v+(cd v.type).1.1 from wrap_i64 (by omega) (by omega),show aR (65536+oh a v)=65536+oh a v from wrap_i64 (by omega) (by omega)];rw[afH (by omega) (by omega) u7 he,rL,List.append_assoc];rfl
theorem atX{vars:List aK}(hv:∀v∈vars,(cd v.type).2=0)(he:lH 0 vars≤65536):mapM vars=(0,lH 0 vars,rL 0 vars):=by unfold mapM;rw[afH (by decide) (by decide) hv he];simp only[List.nil_append];rw[if_neg (by decide),if_neg (by omega)]
theorem ac_:∀{l:List aK}{a:Int}{n:Nat}{v:aK},l[n]?=some v→∃g tl,(rL a l)[n]?=some g∧g={q5 with at_:=g.at_,len:=g.len}∧(nh l (rL a l)).drop (n*3) = .str v.name :: .int .i64 g.at_ :: .int .i64 g.len::tl
 | w::r,a,0,v,h=>by simp at h;subst h;exact⟨_,_,rfl,rfl,rfl⟩
 | w::r,a,n+1,v,h=>by obtain⟨g,tl,h1,h2,h3⟩:=ac_ (l:=r) (a:=oh a w+(cd w.type).1.1) (n:=n) (by simpa using h);refine⟨g,tl,h1,h2,?_⟩;rw[rL,nh,show(n+1)*3=n*3+3 by omega];exact h3
def awk(H:AH)(ix:AV)(idx:List Int):Prop:=∀H',AH.Ext H H'→∀(k:Nat)(v:Int),idx[k]?=some v→∃p,bj none 1 ix (.int .i64 k)=some p∧J H' 1 false p=some (.int .u64 v)
section
variable{C:Ctx}(aw:dz C)(hT:Cl (au C) S.cH)
include aw hT
end
end Rb

namespace Rb
open Go
section
variable{C:Ctx}(aw:dz C)(hT:Cl (au C) S.cH){id:Nat}{vars:List aK}{L:List (List UInt8)}
include aw hT
end
end Rb

namespace Rb
open Go
theorem alG{j n m:Nat}(h:n≤m):kO 2 (.row j 0 m 2) none (some (.int .i64 n)) none=some (.row j 0 n 2):=by simp only[kO,kH];rw[if_pos (by omega)];simp only[Int.toNat_natCast];rw[if_pos ⟨Nat.zero_le _,h,trivial⟩,if_pos (.inl trivial)];simp
theorem uE.take{H:AH}{id:Nat}{L:List (List UInt8×Int)}{x:AV}(h:uE H id L x){n:Nat}(hn:n≤L.length):∃x',kO 2 x none (some (.int .i64 n)) none=some x'∧uE H id (L.take n) x'∧x'.known=true∧x'.cells=[x']∧x'.scalar=true∧∀j c d e,x' = .row j c d e→∃c' d' e',x = .row j c' d' e':=by
 rcases h with⟨rfl,rfl⟩|⟨j,cs,m,rfl,h2,h3,h4,h5,h6⟩
 · have:n=0:=by simpa using hn
   subst this;exact⟨.aq .nil 0 [],rfl,.inl ⟨rfl,rfl⟩,rfl,rfl,rfl,fun j c d e h=>by cases h⟩
 · have hl:(L.take n).length=n:=by rw[List.length_take];omega
   refine⟨.row j 0 n 2,alG hn,.inr ⟨j,cs,m,by rw[hl],h2,h3,h4,by omega,?_⟩,rfl,rfl,rfl,fun q c d e h=>?_⟩
   ·rw[hl,←aca (cells:=JU) (sz:=2) (fun _=>rfl),←h6,List.take_take,Nat.min_eq_left (by omega)]
   · simp only[AV.row.injEq]at h;exact⟨0,L.length,2,by rw[h.1]⟩
section
variable{C:Ctx}(aw:dz C)(hT:Cl (au C) S.cH){id:Nat}{vars:List aK}{c:Nat}
include aw hT
end
end Rb

namespace Rb
open Go
section
variable{C:Ctx}(aw:dz C)(hT:Cl (au C) S.cH){id:Nat}{vars:List aK}{L:List (List UInt8)}{c:Nat}
include aw hT
end
end Rb

namespace Rb
open Go
theorem yI.le{A:List dy}{pc:Nat}{l:List dy}(h:yI A pc l)(hl:l≠[]):pc+l.length≤A.length:=by have hp:0<l.length:=List.length_pos_iff.2 hl;have:=h (l.length-1) l[l.length-1] (List.getElem?_eq_getElem _);have:=(List.getElem?_eq_some_iff.1 this).1;omega
theorem St.put{gV:List (Int×Int)}{s:RS}{u:Nat}(h:St gV s u)(x:List UInt8)(v:Int):St gV (s.put x v) u:=by obtain⟨e1,e2,e3,e4,e5,e6,e7,e8⟩:=aoa s x v;exact⟨by rw[e3];exact h.go,by rw[e8];exact h.em,by rw[e7];exact h.wz,by rw[e6];exact h.fz,by rw[e4];exact h.an,h.le⟩
section
variable{E:VV}(S:V2 E.vars E.A E.gV E.P E.R){c:Nat}
include S
end
end Rb

namespace Rb
open Go
section
variable{C:Ctx}(aw:dz C)(hT:Cl (au C) S.cH)
include aw hT
end
end Rb

namespace Rb
open Go
def eC:AV→Option Nat
 | .row j _ _ _=>some j
 |_=>none
def fG(H:AH)(sz:Nat)(x:AV)(n:Nat)(cells:List AV):Prop:=cells.length=n*sz∧((∃tk,(tk = .nil∨tk = .full)∧n=0∧x = .aq tk 0 [])∨∃j cs m,x = .row j 0 n sz∧At H j (.row cs)∧cs.length=m*sz∧n≤m∧cs.take (n*sz)=cells)
theorem fG.nil(H:AH)(sz:Nat):fG H sz (.aq .nil 0 []) 0 []:=⟨by simp,.inl ⟨.nil,.inl rfl,rfl,rfl⟩⟩
theorem fG.full(H:AH)(sz:Nat):fG H sz (.aq .full 0 []) 0 []:=⟨by simp,.inl ⟨.full,.inr rfl,rfl,rfl⟩⟩
theorem fG.aY{H H':AH}{sz n:Nat}{x:AV}{cells:List AV}(h:fG H sz x n cells)(k:∀j cs,eC x=some j→At H j (.row cs)→At H' j (.row cs)):fG H' sz x n cells:=by
 refine⟨h.1,?_⟩;rcases h.2 with h|⟨j,cs,m,rfl,h2,h3⟩
 ·exact .inl h
 ·exact .inr ⟨j,cs,m,rfl,k j cs rfl h2,h3⟩
theorem fG.ext{H H':AH}{sz n:Nat}{x:AV}{cells:List AV}(h:fG H sz x n cells)(k:AH.Ext H H'):fG H' sz x n cells:=h.aY fun j cs _ h=>h.ext k
theorem fG.set{H:AH}{sz n i:Nat}{x:AV}{cells:List AV}(h:fG H sz x n cells)(hi:eC x≠some i)(o:dc):fG (H.set i o) sz x n cells:=h.aY fun j cs hj h=>h.dq (fun e=>hi (by rw[←e];exact hj)) o
theorem fG.lt{H:AH}{sz n j:Nat}{x:AV}{cells:List AV}(h:fG H sz x n cells)(hj:eC x=some j):j<H.n:=by
 rcases h.2 with⟨tk,_,_,rfl⟩|⟨j',cs,m,rfl,h2,h3⟩
 ·cases hj
 ·cases hj;exact h2.1
theorem fG.len{H:AH}{sz n:Nat}{x:AV}{cells:List AV}(h:fG H sz x n cells):br false x=some (.int .i64 n):=by
 rcases h.2 with⟨tk,_,rfl,rfl⟩|⟨j',cs,m,rfl,h2,h3⟩
 ·rfl
 ·rfl
theorem fG.known{H:AH}{sz n:Nat}{x:AV}{cells:List AV}(h:fG H sz x n cells):x.known=true∧x.cells=[x]∧x.scalar=true:=by
 rcases h.2 with⟨tk,_,rfl,rfl⟩|⟨j',cs,m,rfl,h2,h3⟩
 ·exact⟨rfl,rfl,rfl⟩
 ·exact⟨rfl,rfl,rfl⟩
theorem fG.addr{H:AH}{sz n:Nat}{x:AV}{cells:List AV}(h:fG H sz x n cells){k:Nat}(hk:k<n):∃j cs,eC x=some j∧At H j (.row cs)∧bj none sz x (.int .i64 k)=some (.ptr j (k*sz))∧cs.take (n*sz)=cells∧n*sz≤cs.length:=by
 rcases h.2 with⟨tk,_,rfl,rfl⟩|⟨j,cs,m,rfl,h2,h3,h4,h5⟩
 ·omega
 · refine⟨j,cs,rfl,h2,?_,h5,by rw[h3];exact Nat.mul_le_mul_right _ h4⟩;show(if 0≤(k:Int)∧(k:Int)<(n:Nat)then some (AV.ptr j (0+(k:Int).toNat*sz))else none)=_;rw[if_pos ⟨by omega,by omega⟩,Int.toNat_natCast,Nat.zero_add]
theorem fG.get{H:AH}{n:Nat}{x:AV}{cells:List AV}(h:fG H 1 x n cells){k:Nat}{v:AV}(hv:cells[k]?=some v):∃p,bj none 1 x (.int .i64 k)=some p∧∀H',AH.Ext H H'→J H' 1 false p=some v:=by
 have hk:k<n:=by have:=(List.getElem?_eq_some_iff.1 hv).1;rw[h.1]at this;omega
 obtain⟨j,cs,h1,h2,h3,h4,h5⟩:=h.addr hk;refine⟨_,h3,fun H' E=>?_⟩;rw[(h2.ext E).load];unfold cC;rw[←h4,List.getElem?_take,if_pos (by omega)]at hv;rw[if_pos (by omega),if_neg (by decide),Nat.mul_one];exact hv
theorem fG.cut{H:AH}{n sz:Nat}{x:AV}{cells:List AV}(h:fG H sz x n cells){k:Nat}(hk:k≤n):∃x',kO sz x none (some (.int .i64 k)) none=some x'∧fG H sz x' k (cells.take (k*sz))∧eC x'=eC x:=by
 rcases h.2 with⟨tk,ht,rfl,rfl⟩|⟨j,cs,m,rfl,h2,h3,h4,h5⟩
 · have:k=0:=by omega
   subst this;refine⟨.aq tk 0 [],by simp[kO,kH],⟨by simp,.inl ⟨tk,ht,rfl,rfl⟩⟩,rfl⟩
 · refine ⟨.row j 0 k sz,?_,⟨?_,.inr ⟨j,cs,m,rfl,h2,h3,by omega,?_⟩⟩,rfl⟩
   · simp only[kO,kH];rw[if_pos (by omega)];simp only[Int.toNat_natCast,Option.map_none];rw[if_pos ⟨Nat.zero_le _,hk,trivial⟩,if_pos (by simp)];simp
   · rw[List.length_take,h.1];exact Nat.min_eq_left (Nat.mul_le_mul_right _ hk)
   ·rw[←h5,List.take_take,Nat.min_eq_left (Nat.mul_le_mul_right _ hk)]
theorem fG.qK{H:AH}{n:Nat}{x:AV}{l:List Int}(h:fG H 1 x n (l.map (AV.int .u64))){a b:Nat}(Gj:a≤b)(hb:b≤n):∃y,kO 1 x (some (.int .i64 a)) (some (.int .i64 b)) none=some y∧awk H y ((l.take b).drop a):=by
 rcases h.2 with⟨tk,ht,rfl,rfl⟩|⟨j,cs,m,rfl,h2,h3,h4,h5⟩
 · have:a=0:=by omega
   have:b=0:=by omega
   subst_vars
   refine⟨.aq tk 0 [],by simp[kO,kH],fun H' _ k v hv=>by simp at hv⟩
 · by_cases hc:a=0∨a<b
   · refine ⟨.row j (0+a*1) (b-a) 1,?_,fun H' E k v hv=>?_⟩
     · simp only[kO,kH];rw[if_pos (by omega),if_pos (by omega)];simp only[Int.toNat_natCast,Option.map_none];rw[if_pos ⟨Gj,hb,trivial⟩,if_pos hc]
     · rw [List.getElem?_drop,List.getElem?_take]at hv;split at hv
       · rename_i aO;refine⟨.ptr j (0+a*1+k*1),?_,?_⟩
         · show(if 0≤(k:Int)∧(k:Int)<((b-a:Nat):Int)then some (AV.ptr j (0+a*1+(k:Int).toNat*1))else none)=_;rw[if_pos ⟨by omega,by omega⟩,Int.toNat_natCast]
         · rw[(h2.ext E).load];unfold cC;have u7:(l.map (AV.int .u64))[a+k]?=some (.int .u64 v):=by rw[List.getElem?_map,hv];rfl
           rw[←h5,List.getElem?_take,if_pos (by omega)]at u7;rw[if_pos (by omega),if_neg (by decide)];rw[show 0+a*1+k*1=a+k by omega];exact u7
       ·cases hv
   · refine ⟨.aq .dead 0 [],?_,fun H' E k v hv=>?_⟩
     · simp only[kO,kH];rw[if_pos (by omega),if_pos (by omega)];simp only[Int.toNat_natCast,Option.map_none];rw[if_pos ⟨Gj,hb,trivial⟩,if_neg hc]
     · have:=(List.getElem?_eq_some_iff.1 hv).1;rw[List.length_drop,List.length_take]at this;omega
theorem Si:∀(news:List AV)(o:Nat)(cs:List AV),(setCells cs o news).length=cs.length
 |[],o,cs=>rfl
 |v::r,o,cs=>by rw[setCells,Si r,List.length_set]
theorem fG.app{H:AH}{n sz bytes:Nat}{x:AV}{cells news:List AV}(h:fG H sz x n cells)(hz:0<sz)(hn:news.length=sz)(lQ:news.all AV.scalar=true)(hb:(n+1)*bytes≤140737488355328)(hl:n+1≤9223372036854775807){K:ae}
  (hK:∀x' H',fG H' sz x' (n+1) (cells++news)→H.n≤H'.n→(∀i o,eC x≠some i→At H i o→At H' i o)→(eC x'=eC x∨eC x'=some H.n)→K x' H'):aJ (eF H true sz bytes x (.aq .full 1 news)) K:=by
 have hy:mM H sz (.aq .full 1 news)=some (1,news):=by simp[mM,hn]
 have hlen:(cells++news).length=(n+1)*sz:=by rw[List.length_append,h.1,hn,Nat.add_mul,Nat.one_mul]
 rcases h.2 with⟨tk,ht,rfl,rfl⟩|⟨j,cs,m,rfl,h2,h3,h4,h5⟩
 · have hc:cells=[]:=List.length_eq_zero_iff.1 (by rw[h.1];simp);subst hc;have e:eF H true sz bytes (.aq tk 0 []) (.aq .full 1 news)=some (.row H.n 0 (0+1) sz,H.push (.row ([]++news))):=by
    simp only[eF,hy,lQ,not_true_eq_false,if_false];rw[if_neg (by decide),if_neg (by simp only[Decidable.not_not];exact⟨by simp,hb,hl⟩)];rcases ht with rfl|rfl<;>rfl
   exact⟨_,_,e,hK _ _ ⟨hlen,.inr ⟨H.n,[]++news,1,rfl,At.new H _,by simp[hn],Nat.le_refl _,by rw[List.take_of_length_le (by rw[hlen];exact Nat.le_refl _)]⟩⟩ (Nat.le_succ _) (fun i o _ h=>h.push _) (.inr rfl)⟩
 · by_cases hc:(n+1)*sz≤cs.length
   · have e:eF H true sz bytes (.row j 0 n sz) (.aq .full 1 news)=some (.row j 0 (n+1) sz,H.set j (.row (setCells cs (n*sz) news))):=by
       simp only[eF,hy,lQ,not_true_eq_false,if_false,h2.2];rw[if_neg (by decide),if_neg (by simp only[Decidable.not_not];exact⟨trivial,trivial,hb,hl⟩),if_pos hc]
     refine⟨_,_,e,hK _ _ ⟨hlen,.inr ⟨j,_,m,rfl,h2.set _,?_,?_,?_⟩⟩ (Nat.le_refl _) (fun i o hi h=>h.dq (fun e=>hi (by rw[e];rfl)) _) (.inl rfl)⟩
     ·rw[Si];exact h3
     · rw[h3]at hc;exact Nat.le_of_mul_le_mul_right hc hz
     · apply List.ext_getElem?;intro q;rw[List.getElem?_take];have jZ:cells.length=n*sz:=h.1;have h1s:(n+1)*sz=n*sz+sz:=by rw[Nat.add_mul,Nat.one_mul]
       by_cases hq:q<(n+1)*sz
       · rw[if_pos hq,ZG news cs _ _ (by rw[hn];omega)];by_cases h1:n*sz≤q∧q<n*sz+news.length
         ·rw[if_pos h1,List.getElem?_append_right (by omega),jZ]
         ·rw[if_neg h1,List.getElem?_append_left (by omega),←h5,List.getElem?_take,if_pos (by omega)]
       ·rw[if_neg hq,List.getElem?_eq_none (by rw[hlen];omega)]
   · have hmn:cs.length=n*sz:=by
       rw[h3]at hc ⊢;have:¬n+1≤m:=fun z=>hc (Nat.mul_le_mul_right _ z);rw[show m=n by omega]
     have e:eF H true sz bytes (.row j 0 n sz) (.aq .full 1 news)=some (.row H.n 0 (n+1) sz,(H.set j .gone).push (.row (cs++news))):=by simp only[eF,hy,lQ,not_true_eq_false,if_false,h2.2];rw[if_neg (by decide),if_neg (by simp only[Decidable.not_not];exact⟨trivial,trivial,hb,hl⟩),if_neg hc,if_pos hmn]
     have zC:cs=cells:=by rw[←h5,List.take_of_length_le (by omega)]
     refine⟨_,_,e,hK _ _ ⟨hlen,.inr ⟨H.n,cs++news,n+1,rfl,At.new (H.set j .gone) _,by rw[zC];exact hlen,Nat.le_refl _,?_⟩⟩ (Nat.le_succ _) (fun i o hi h=>(h.dq (fun e=>hi (by rw[e];rfl)) _).push _) (.inr rfl)⟩;rw[List.take_of_length_le (by rw[zC,hlen];exact Nat.le_refl _),zC]
end Rb

namespace Rb
open Go
def fF(kw:List UInt8→Bool):List (List UInt8)→List aK→Int
 |_,[]=>0
 |seen,v::r=>if gH v.name=false∨kw v.name=true then 6 else if seen.contains v.name=true then 7 else if(cd v.type).2≠0 then(cd v.type).2 else fF kw (seen++[v.name]) r
theorem Tj(kw:List UInt8→Bool)(K:Int)(hK:K=70000):∀(l:List aK)(seen:List (List UInt8)) (a:Int) (n:Nat),0≤a→a≤n*K→n+l.length≤32→xr kw seen a l=if fF kw seen l≠0 then fF kw seen l else if lH a l>65536 then 9 else 0
 | [],seen,a,n,h0,h1,h2=>by
  have e:lH a []=a:=by rw[lH]
  have f:fF kw seen []=0:=by rw[fF]
  by_cases h:a>65536
  ·rw[xr,if_pos h,f,if_neg (fun z=>z rfl),if_pos (by rw[e];exact h)]
  ·rw[xr,if_neg h,f,if_neg (fun z=>z rfl),if_neg (by rw[e];exact h)]
 | v :: r,seen,a,n,h0,h1,h2=>by
  rw[xr,fF,lH];by_cases e1:gH v.name=false∨kw v.name=true
  ·rw[if_pos e1,if_pos e1,if_pos (by decide)]
  · rw [if_neg e1,if_neg e1];by_cases e2:seen.contains v.name=true
    ·rw[if_pos e2,if_pos e2,if_pos (by decide)]
    · rw [if_neg e2,if_neg e2];by_cases e3:(cd v.type).2≠0
      ·rw[if_pos e3,if_pos e3,if_pos e3]
      · rw [if_neg e3,if_neg e3];have hz:(cd v.type).2=0:=by simpa using e3
        obtain⟨b1,b2,b3,b4⟩:=Mg hz;rw[List.length_cons]at h2;have h1':a≤n*70000:=by rw[←hK];exact h1
        have hu:=lv (n:=a) (step:=(cd v.type).1.2) (by omega);have hw:aR (dX a (cd v.type).1.2+(cd v.type).1.1)=oh a v+(cd v.type).1.1:=by rw[Ay h0 (by omega) (by omega) (by omega)];exact wrap_i64 (by omega) (by omega)
        rw[hw];unfold oh;exact Tj kw K hK r _ _ (n+1) (by omega) (by subst hK;push_cast;omega) (by omega)
theorem TM(kw:List UInt8→Bool):∀{l:List aK}{seen:List (List UInt8)},fF kw seen l=0→∀v∈l,(cd v.type).2=0
 | v :: r,seen,h,w,hw=>by
  rw[fF]at h;split at h
  ·cases h
  · split at h
    ·cases h
    · split at h
      ·rename_i e;exact absurd h e
      · rename_i e;rcases List.mem_cons.1 hw with rfl|hw
        ·simpa using e
        ·exact TM kw h w hw
end Rb

namespace Rb
open Go
section
variable{C:Ctx}(aw:dz C)(hT:Cl (au C) S.cH)
include aw hT
theorem aaZ(x:aT):cG (au C) K.f62 [.agg x.cells] (.bool (jS x)):=by
 intro H Q hQ;refine S.arl hT ?_;unfold S.f62;unfold jS at hQ;simp only[BP,bw,BE,afN,aa,lq,ck];refine aN (fun h=>?_) (fun h=>?_)
 · simp only[An,cu,aa,cn];rw[h,Bool.true_and]at hQ;rw [show((x.parts.length:Int)==0)=(x.parts.length==0) by
     rw[Bool.eq_iff_iff];simp]
   exact hQ
 · have h:(x.var==[])=false:=by simpa using h
   rw[h,Bool.false_and]at hQ;exact hQ
def Aq:List Int:=[-1,0,0,2,0,0,1,1,2]
theorem akt(e:aF):cG (au C) K.f64 [.agg e.cells] (.bool (kM e)):=by
 intro H Q hQ;refine S.aro hT ?_;unfold S.f64;have k1:∀b:Bool,Q (.bool (b&&(decide (e.kind≥4)||jS e.place))) H→S.Pm (au C) (.av e.cells) Q [.bool b] H:=by
  intro b hb;unfold S.Pm;simp only[aA,ck];cases b with
  |false=>rw[if_neg (by decide)];exact hb
  | true=>
   rw[if_pos rfl];simp only[oZ,pn,aa,kG,cj];refine gG (fun q=>?_) (fun q=>?_)
   · simp only[EZ,aa];refine aaZ aw hT e.place _ _ ?_;rw[q]at hb;exact hb
   · rw[q]at hb;exact hb
 have k2:∀b:Bool,Q (.bool (b&&(decide (e.op≤11)&&(decide (e.kind≥4)||jS e.place)))) H→S.Pn (au C) (.av e.cells) Q [.bool b] H:=by
  intro b hb;unfold S.Pn;simp only[aA,ck,aG];cases b with
  |false=>rw[if_neg (by decide)];exact k1 false hb
  | true=>rw[if_pos rfl];simp only[oZ,IZ,aa,mL];exact k1 _ hb
 have k3:∀b:Bool,Q (.bool (b&&(decide (e.op≥0)&&(decide (e.op≤11)&&(decide (e.kind≥4)||jS e.place))))) H→S.Po (au C) (.av e.cells) Q [.bool b] H:=by
  intro b hb;unfold S.Po;simp only[aA,ck,aG];cases b with
  |false=>rw[if_neg (by decide)];exact k2 false hb
  | true=>rw[if_pos rfl];simp only[oZ,IZ,aa,kG];exact k2 _ hb
 have k4:∀b:Bool,Q (.bool (b&&(((e.kind==3)==(e.op != 0))&&(decide (e.op≥0)&&(decide (e.op≤11)&&(decide (e.kind≥4)||jS e.place)))))) H→S.Ix (au C) (.av e.cells) Q [.bool b] H:=by
  intro b hb;unfold S.Ix;simp only[aA,ck,aG];cases b with
  |false=>rw[if_neg (by decide)];exact k3 false hb
  | true=>rw[if_pos rfl];simp only[oZ,pn,IZ,aa,cn,eK];rw[show uF false (.bool (e.kind==3)) (.bool (e.op != 0))=some (.bool ((e.kind==3)==(e.op != 0)))from rfl];simp only[aa];exact k3 _ hb
 have k5:∀b:Bool,Q (.bool (b&&((e.name==[]||e.kind==2)&&(((e.kind==3)==(e.op != 0))&&(decide (e.op≥0)&&(decide (e.op≤11)&&(decide (e.kind≥4)||jS e.place))))))) H→S.Pp (au C) (.av e.cells) Q [.bool b] H:=by
  intro b hb;unfold S.Pp;simp only[aA,ck,aG];cases b with
  |false=>rw[if_neg (by decide)];exact k4 false hb
  | true=>
   rw[if_pos rfl];simp only[oZ,Qa,aa,lq,cj];refine gG (fun q=>?_) (fun q=>?_)
   · rw[q]at hb;simp only[pn,aa,cn];exact k4 _ hb
   · rw[q]at hb;exact k4 true hb
 have k6:Q (.bool ((e.n==0||e.kind==1)&&((e.name==[]||e.kind==2)&&(((e.kind==3)==(e.op != 0))&&(decide (e.op≥0)&&(decide (e.op≤11)&&(decide (e.kind≥4)||jS e.place))))))) H→S.US (au C) (.av e.cells) Q [] H:=by
  intro hb;unfold S.US;simp only[oZ,Vn,aa,cn,cj,aG];refine gG (fun q=>?_) (fun q=>?_)
  · rw[q]at hb;simp only[pn,aa,cn];exact k5 _ hb
  · rw[q]at hb;exact k5 true hb
 have k7:∀c:Bool,(c=true→kM e=false)→(c=false→kM e=((e.n==0||e.kind==1)&&((e.name==[]||e.kind==2)&&(((e.kind==3)==(e.op != 0))&&(decide (e.op≥0)&&(decide (e.op≤11)&&(decide (e.kind≥4)||jS e.place)))))))→S.Iy (au C) (.av e.cells) Q [.bool c] H:=by
  intro c h1 h2;unfold S.Iy;simp only[aA,aD,aG];refine aN (fun q=>?_) (fun q=>?_)
  ·rw[h1 q]at hQ;exact hQ
  · rw[h2 (by simpa using q)]at hQ;exact k6 hQ
 simp only[Es,bw];refine⟨.aq .full 9 (Aq.map (AV.int .i64)),H,rfl,?_⟩;simp only[oZ,pn,aa,bF,cj,aG];refine gG (fun q1=>?_) (fun q1=>?_)
 · have q1:¬e.kind<1:=of_decide_eq_false q1;simp only[pn,aa,eY,cj];refine gG (fun q2=>?_) (fun q2=>?_)
   · have q2:¬e.kind>8:=of_decide_eq_false q2;obtain⟨kk,gW,hk8⟩:∃kk:Nat,e.kind=kk∧kk≤8:=⟨e.kind.toNat,by omega,by omega⟩
     have Cx:∃z,Aq[kk]?=some z∧z=(ni e.kind).1:=by
      have aO:kk<Aq.length:=by show kk<9;omega
      refine⟨Aq[kk],List.getElem?_eq_getElem aO,?_⟩;rw[gW];have:kk=1∨kk=2∨kk=3∨kk=4∨kk=5∨kk=6∨kk=7∨kk=8:=by omega
      rcases this with rfl|rfl|rfl|rfl|rfl|rfl|rfl|rfl<;>rfl
     obtain⟨z,tZ,Bf⟩:=Cx;simp only[I0,cu,pn,aa];have ha:bj none 1 (.aq .full 9 (Aq.map (AV.int .i64))) (.int .i64 e.kind)=some (.av ((Aq.map (AV.int .i64)).drop (kk*1))):=by simp only[bj];rw[if_pos ⟨by omega,by omega⟩,gW];simp
     have hv:J H 1 false (.av ((Aq.map (AV.int .i64)).drop (kk*1)))=some (.int .i64 z):=by show cC _ 0 1 false=_;unfold cC;have hlen:Aq.length=9:=rfl;rw[if_pos (by rw[List.length_drop,List.length_map];omega)];simp[tZ]
     simp only[ha,hv,aa,eK];refine k7 _ (fun q=>?_) (fun q=>?_)
     · have q:(e.kids.length:Int)≠z:=by simpa using q
       unfold kM;have:((e.kids.length:Int)==(ni e.kind).1)=false:=by rw[←Bf];simpa using q
       rw[this,Bool.and_false]
     · have q:(e.kids.length:Int)=z:=by simpa using q
       unfold kM;have:((e.kids.length:Int)==(ni e.kind).1)=true:=by rw[←Bf];simpa using q
       rw[this,Bool.and_true];clear ha hv tZ Bf q this k1 k2 k3 k4 k5 k6 k7 hQ;have:kk=1∨kk=2∨kk=3∨kk=4∨kk=5∨kk=6∨kk=7∨kk=8:=by omega
       generalize jS e.place=ep;generalize (e.n==0)=en;generalize (e.name==[])=em;have aCS:(e.op != 0)=!(e.op==0):=rfl;have RC:(e.op==0)=true∨(e.op==0)=false:=by cases (e.op==0)<;>simp
       rw[Bool.eq_iff_iff];rcases this with rfl|rfl|rfl|rfl|rfl|rfl|rfl|rfl<;>(cases ep<;>cases en<;>cases em<;>simp[gW,ni]<;>omega)
   · have q2:e.kind>8:=of_decide_eq_true q2;refine k7 true (fun _=>?_) (fun q=>by cases q);unfold kM;rw[show decide (e.kind≤8)=false from decide_eq_false (by omega)];simp
 · have q1:e.kind<1:=of_decide_eq_true q1;refine k7 true (fun _=>?_) (fun q=>by cases q);unfold kM;rw[show decide (1≤e.kind)=false from decide_eq_false (by omega)];simp
end
end Rb

namespace Rb
open Go
theorem acU(n:Nat):((n:Int)==0)=(n==0):=by rw[Bool.eq_iff_iff];simp
section
variable{C:Ctx}(aw:dz C)(hT:Cl (au C) S.cH)
include aw hT
def Ah:List Int:=[-1,1,1,1,1,0,2,0,1,1,1]
theorem akJ(e:aC):cG (au C) K.f36 [.agg e.cells] (.bool (ly e)):=by
 intro H Q hQ;refine S.aqV hT ?_;unfold S.f36;have k1:∀b:Bool,Q (.bool (b&&(e.kind==8||e.bz.length==0))) H→S.Ex (au C) (.av e.cells) Q [.bool b] H:=by
  intro b hb;unfold S.Ex;simp only[aA,ck];cases b with
  |false=>rw[if_neg (by decide)];exact hb
  | true=>
   rw[if_pos rfl];simp only[ko,nr,aa,cn,cj];refine gG (fun q=>?_) (fun q=>?_)
   · simp only[QA,cu,aa,cn,acU];rw[q]at hb;exact hb
   ·rw[q]at hb;exact hb
 have k2:∀b:Bool,Q (.bool (b&&(((e.kind==8||e.kind==9)||e.aZ.length==0)&&(e.kind==8||e.bz.length==0)))) H→S.Ij (au C) (.av e.cells) Q [.bool b] H:=by
  intro b hb;unfold S.Ij;simp only[aA,ck,aG];cases b with
  |false=>rw[if_neg (by decide)];exact k1 false hb
  | true=>
   rw[if_pos rfl];simp only[ko,nr,aa,cn,cj];refine gG (fun q=>?_) (fun q=>?_)
   · refine gG (fun q2=>?_) (fun q2=>?_)
     · simp only[Jf,cu,aa,cn,acU];rw[q,q2]at hb;refine k1 _ ?_;rw[q];exact hb
     · rw[q,q2]at hb;refine k1 true ?_;rw[q];exact hb
   · rw[q]at hb;refine k1 true ?_;rw[q];exact hb
 have k3:∀b c:Bool,Q (.bool (b&&((c||jS e.place)&&(((e.kind==8||e.kind==9)||e.aZ.length==0)&&(e.kind==8||e.bz.length==0))))) H→S.Ik (au C) (.av e.cells) [.bool c] Q [.bool b] H:=by
  intro b c hb;unfold S.Ik;simp only[aA,ck,aG,cj];cases b with
  |false=>rw[if_neg (by decide)];exact k2 false hb
  | true=>
   rw[if_pos rfl];cases c with
   | false=>rw[if_pos rfl];simp only[ko,Av,aa];exact aaZ aw hT e.place _ _ (k2 _ hb)
   | true=>rw[if_neg (by decide)];exact k2 true hb
 have k4:∀b c:Bool,Q (.bool (b&&((e.kind==5||e.cW==[])&&((c||jS e.place)&&(((e.kind==8||e.kind==9)||e.aZ.length==0)&&(e.kind==8||e.bz.length==0)))))) H→S.Oz (au C) (.av e.cells) [.bool c] Q [.bool b] H:=by
  intro b c hb;unfold S.Oz;simp only[aA,ck,aG];cases b with
  |false=>rw[if_neg (by decide)];exact k3 false c hb
  | true=>
   rw[if_pos rfl];simp only[ko,nr,aa,cn,cj];refine gG (fun q=>?_) (fun q=>?_)
   · simp only[Qy,aa,lq];rw[q]at hb;exact k3 _ c hb
   · rw[q]at hb;exact k3 true c hb
 have k5:∀a c:Bool,Q (.bool ((a||e.name==[])&&((e.kind==5||e.cW==[])&&((c||jS e.place)&&(((e.kind==8||e.kind==9)||e.aZ.length==0)&&(e.kind==8||e.bz.length==0)))))) H→S.OA (au C) (.av e.cells) [.bool a] Q [.bool c] H:=by
  intro a c hb;unfold S.OA;simp only[aA,cj,aG];cases a with
  | false=>rw[if_pos rfl];simp only[ko,yN,aa,lq];exact k4 _ c hb
  | true=>rw[if_neg (by decide)];exact k4 true c hb
 have k6:∀a:Bool,Q (.bool ((a||e.name==[])&&((e.kind==5||e.cW==[])&&(((decide (e.kind≥3)&&decide (e.kind≤6))||jS e.place)&&(((e.kind==8||e.kind==9)||e.aZ.length==0)&&(e.kind==8||e.bz.length==0)))))) H→S.OB (au C) (.av e.cells) Q [.bool a] H:=by
  intro a hb;unfold S.OB;simp only[ko,nr,aa,kG,ck,aG];refine aN (fun q=>?_) (fun q=>?_)
  · simp only[nr,aa,mL];rw[q,Bool.true_and]at hb;exact k5 a _ hb
  · have q:decide (e.kind≥3)=false:=by simpa using q
    rw[q,Bool.false_and]at hb;exact k5 a false hb
 have k8:Q (.bool ((((e.kind==1||e.kind==2)||e.kind==5)||e.name==[])&&((e.kind==5||e.cW==[])&&(((decide (e.kind≥3)&&decide (e.kind≤6))||jS e.place)&&(((e.kind==8||e.kind==9)||e.aZ.length==0)&&(e.kind==8||e.bz.length==0)))))) H→S.UB (au C) (.av e.cells) Q [] H:=by
  intro hb;have k7:∀b:Bool,b=(e.kind==1||e.kind==2)→S.OC (au C) (.av e.cells) Q [.bool b] H:=by
   intro b nE;unfold S.OC;simp only[aA,cj,aG];rw[←nE]at hb;cases b with
   | false=>rw[if_pos rfl];simp only[ko,nr,aa,cn];exact k6 _ hb
   | true=>rw[if_neg (by decide)];exact k6 true hb
  unfold S.UB;simp only[ko,nr,aa,cn,cj,aG];refine gG (fun q=>?_) (fun q=>?_)
  ·exact k7 _ (by rw[q];simp)
  ·exact k7 true (by rw[q];simp)
 have k9:∀c:Bool,(c=true→ly e=false)→(c=false→ly e=((((e.kind==1||e.kind==2)||e.kind==5)||e.name==[])&&((e.kind==5||e.cW==[])&&(((decide (e.kind≥3)&&decide (e.kind≤6))||jS e.place)&&(((e.kind==8||e.kind==9)||e.aZ.length==0)&&(e.kind==8||e.bz.length==0))))))→S.Il (au C) (.av e.cells) Q [.bool c] H:=by
  intro c h1 h2;unfold S.Il;simp only[aA,aD,aG];refine aN (fun q=>?_) (fun q=>?_)
  ·rw[h1 q]at hQ;exact hQ
  · rw[h2 (by simpa using q)]at hQ;exact k8 hQ
 simp only[Ao,bw];refine⟨.aq .full 11 (Ah.map (AV.int .i64)),H,rfl,?_⟩;simp only[ko,nr,aa,bF,cj,aG];refine gG (fun q1=>?_) (fun q1=>?_)
 · have q1:¬e.kind<1:=of_decide_eq_false q1;simp only[nr,aa,eY,cj];refine gG (fun q2=>?_) (fun q2=>?_)
   · have q2:¬e.kind>10:=of_decide_eq_false q2;obtain⟨kk,gW,hk8⟩:∃kk:Nat,e.kind=kk∧kk≤10:=⟨e.kind.toNat,by omega,by omega⟩
     have Cx:∃z,Ah[kk]?=some z∧z=(iO e.kind).2.2.2.1:=by
      have aO:kk<Ah.length:=by show kk<11;omega
      refine⟨Ah[kk],List.getElem?_eq_getElem aO,?_⟩;rw[gW];have:kk=1∨kk=2∨kk=3∨kk=4∨kk=5∨kk=6∨kk=7∨kk=8∨kk=9∨kk=10:=by omega
      rcases this with rfl|rfl|rfl|rfl|rfl|rfl|rfl|rfl|rfl|rfl<;>rfl
     obtain⟨z,tZ,Bf⟩:=Cx;simp only[yO,cu,nr,aa];have ha:bj none 1 (.aq .full 11 (Ah.map (AV.int .i64))) (.int .i64 e.kind)=some (.av ((Ah.map (AV.int .i64)).drop (kk*1))):=by simp only[bj];rw[if_pos ⟨by omega,by omega⟩,gW];simp
     have hv:J H 1 false (.av ((Ah.map (AV.int .i64)).drop (kk*1)))=some (.int .i64 z):=by show cC _ 0 1 false=_;unfold cC;have hlen:Ah.length=11:=rfl;rw[if_pos (by rw[List.length_drop,List.length_map];omega)];simp[tZ]
     simp only[ha,hv,aa,eK];refine k9 _ (fun q=>?_) (fun q=>?_)
     · have q:(e.exprs.length:Int)≠z:=by simpa using q
       unfold ly;have:((e.exprs.length:Int)==(iO e.kind).2.2.2.1)=false:=by rw[←Bf];simpa using q
       rw[this,Bool.and_false,Bool.false_and,Bool.false_and]
     · have q:(e.exprs.length:Int)=z:=by simpa using q
       unfold ly;have:((e.exprs.length:Int)==(iO e.kind).2.2.2.1)=true:=by rw[←Bf];simpa using q
       rw[this,Bool.and_true];clear ha hv tZ Bf q this k1 k2 k3 k4 k5 k6 k8 k9 hQ;have:kk=1∨kk=2∨kk=3∨kk=4∨kk=5∨kk=6∨kk=7∨kk=8∨kk=9∨kk=10:=by omega
       generalize jS e.place=ep;generalize (e.name==[])=en;generalize (e.cW==[])=em;generalize (e.aZ.length==0)=et;generalize (e.bz.length==0)=el;rcases this with rfl|rfl|rfl|rfl|rfl|rfl|rfl|rfl|rfl|rfl<;>(cases ep<;>cases en<;>cases em<;>cases et<;>cases el<;>simp[gW,iO])
   · have q2:e.kind>10:=of_decide_eq_true q2;refine k9 true (fun _=>?_) (fun q=>by cases q);unfold ly;rw[show decide (e.kind≤10)=false from decide_eq_false (by omega)];simp
 · have q1:e.kind<1:=of_decide_eq_true q1;refine k9 true (fun _=>?_) (fun q=>by cases q);unfold ly;rw[show decide (1≤e.kind)=false from decide_eq_false (by omega)];simp
end
end Rb

namespace Rb
open Go
def fo(vars:List aK)(s:aS):List AV:=[aQ aK.cells vars,.int .i64 s.lets,.int .i64 s.line,.int .i64 s.nN,.int .i64 s.aV]
def AB(x:AV)(l:List (List UInt8)):Prop:=∃tk,x = .aq tk l.length (l.map AV.str)
section
variable{C:Ctx}(aw:dz C)(hT:Cl (au C) S.cH)
include aw hT
theorem oU{vars:List aK}{s:aS}{H:AH}{id:Nat}{Q:ae}(h:At H id (.row (fo vars s)))(ok:Bool)(e:Int)(hQ:∀H',cM id H H'→At H' id (.row (fo vars (s.cZ ok e)))→Q (.bool ((s.cZ ok e).aV==0)) H'):au C K.f35 [.ptr id 0,.bool ok,.int .i64 e] H Q:=by
 refine S.aqU hT ?_;unfold S.f35;have k1:∀(s':aS)(H':AH),At H' id (.row (fo vars s'))→Q (.bool (s'.aV==0)) H'→S.Ox (au C) (.ptr id 0) Q [] H':=by intro s' H' h' hq;unfold S.Ox;simp only[bR,ab,Nat.zero_add,aa];rw[show J H' 1 false (.ptr id (3+1))=some (.int .i64 s'.aV) by rw[h'.load];rfl];simp only[aa,cn];exact hq
 have k2:∀b:Bool,(b=true↔(ok=false∧s.aV=0))→S.Oy (au C) (.ptr id 0) (.int .i64 e) Q [.bool b] H:=by
  intro b hb;unfold S.Oy;unfold aS.cZ at hQ;simp only[aA,aD,aG];refine aN (fun q=>?_) (fun q=>?_)
  · rw [if_pos (hb.1 q)]at hQ;simp only[bR,ab,Nat.zero_add,aa];rw[show J H 1 false (.ptr id 2)=some (.int .i64 s.line) by rw[h.load];rfl];simp only[aa];rw[show bJ [.int .i64 0,.int .i64 0] [(0,1,.int .i64 s.line),(1,1,.int .i64 e)]=some (.agg [.int .i64 s.line,.int .i64 e])from rfl];simp only[aa];rw [show aH H 2 (.ptr id 3) (.agg [.int .i64 s.line,.int .i64 e])=some (H.set id (.row (fo vars {s with nN:=s.line,aV:=e}))) by
      rw[h.store,if_pos ⟨rfl,rfl,rfl,(by show 3+2≤5;decide)⟩];rfl]
    simp only[aa];have h2:=h.set (.row (fo vars {s with nN:=s.line,aV:=e}));exact k1 _ _ h2 (hQ _ (cM.set id H _) h2)
  · rw[if_neg (fun z=>q (hb.2 z))]at hQ;exact k1 s H h (hQ H (cM.refl id H) h)
 simp only[bR,ab,Nat.zero_add,aa];rw[show J H 1 false (.ptr id (3+1))=some (.int .i64 s.aV) by rw[h.load];rfl];simp only[aa,cn,ck,aG];refine aN (fun q=>?_) (fun q=>?_)
 · have q:s.aV=0:=by simpa using q
   simp only[gk,aa];refine k2 _ ?_;cases ok<;>simp[q]
 · have q:¬s.aV=0:=by simpa using q
   exact k2 false ⟨fun z=>(by cases z),fun z=>absurd z.2 q⟩
theorem IF{x:AV}{l:List (List UInt8)}(hx:AB x l)(hl:l.length≤1000000)(n:List UInt8):cG (au C) K.f38 [x,.str n] (.bool (l.any fun y=>n==y)):=by
 obtain⟨tk,rfl⟩:=hx;intro H Q hQ;refine S.aqX hT ?_;unfold S.f38;have main:∀(r:List (List UInt8)) (k:Nat),l.drop k=r→(r.any fun y=>n==y)=(l.any fun y=>n==y)→aB (S.OG (au C) (.aq tk l.length (l.map .str)) (.str n) Q) ([.int .i64 k],H):=by
  intro r;induction r with
  | nil=>intro k hd hb;have hle:=fe hd;refine aB.step ?_;simp only[S.OG,aA];rw[show br false (.aq tk l.length (l.map .str))=some (.int .i64 l.length)from rfl];simp only[aa,bF,aD];rw[if_neg (by simp only[decide_eq_true_eq];omega)];rw[←hb]at hQ;exact hQ
  | cons y r ih=>
   intro k hd hb;obtain⟨aO,hx,bC⟩:=eX hd;refine aB.step ?_;simp only[S.OG,aA];rw[show br false (.aq tk l.length (l.map .str))=some (.int .i64 l.length)from rfl];simp only[aa,bF,aD];rw[if_pos (by simp only[decide_eq_true_eq];omega)];have ha:bj none 1 (.aq tk l.length (l.map .str)) (.int .i64 k)=some (.av ((l.map AV.str).drop (k*1))):=by simp only[bj];rw[if_pos ⟨by omega,by omega⟩];simp
   have hv:J H 1 false (.av ((l.map AV.str).drop (k*1)))=some (.str y):=by show cC _ 0 1 false=_;unfold cC;rw[if_pos (by rw[List.length_drop,List.length_map];omega)];simp[hx]
   simp only[ha,hv,aa,lq,aD];rw[List.any_cons]at hb;refine aN (fun q=>?_) (fun q=>?_)
   · have q:y=n:=by simpa using q
     have:(l.any fun y=>n==y)=true:=by rw[←hb,q];simp
     rw[this]at hQ;exact hQ
   · have q:¬y=n:=by simpa using q
     have bU:(n==y)=false:=by simpa using fun e=>q e.symm
     rw[bU,Bool.false_or]at hb;simp only[cp,aa];rw[wrap_i64 (by omega) (by omega),show(k:Int)+1=((k+1:Nat):Int) by simp];exact ih (k+1) bC hb
 exact main l 0 rfl rfl
end
end Rb

namespace Rb
open Go
theorem tc0(t:aE):cC t.cells 0 1 false=some (.int .i64 t.kind):=by rw[aE.bf];rfl
theorem tc3(t:aE):cC t.cells 3 1 false=some (aQ aP.cells t.fields):=by rw[aE.bf];rfl
theorem tc5(t:aE):cC t.cells 5 1 false=some (aQ aE.cells t.elem):=by rw[aE.bf];rfl
theorem pc0(p:a_):cC p.cells 0 1 false=some (.str p.field):=by rw[a_.bf];rfl
theorem pc1(p:a_):cC p.cells 1 1 false=some (aQ aF.cells p.index):=by rw[a_.bf];rfl
theorem aln{t:aE}(h:iI t=0):ed t=0:=by
 unfold iI at h;split at h
 ·cases h
 ·exact h
section
variable{Φ:aj}{H:AH}{Q:ae}
theorem akd(hT : Cl Φ S.cH){vars:List aK}{x:aT}(yg:vars.length≤9223372036854775807)(Yk:x.parts.length≤9223372036854775807)
  (U_:∀v∈vars,cG Φ K.f32 [.agg v.type.cells] (.int .i64 (iI v.type)))
  (hQ:∀H',Q (mB (dm vars x)) H'):S.f63 Φ (aQ aK.cells vars) (.agg x.cells) H Q:=by
 have fin:∀v H',v=mB (dm vars x)→Q v H':=fun v H' h=>by rw[h];exact hQ H'
 clear hQ;unfold S.f63;simp only[PO,bw,be,if_true,cu,aa,nM];have we:At (H.push (.row gZ)) H.n (.row gZ):=At.new H _;change At (H.push (.row [.int .i64 0,.int .i64 0,.bool false,.aq .nil 0 [],.int .i64 0,.aq .nil 0 []])) H.n _ at we;generalize (H.push (.row [.int .i64 0,.int .i64 0,.bool false,.aq .nil 0 [],.int .i64 0,.aq .nil 0 []]))=H4 at *;generalize H.n=dK at *;have bad:∀(e:Int)(H1:AH),At H1 dK (.row gZ)→e≠0→(dm vars x).1=e→Do (bJ [.int .i64 0,.int .i64 0,.bool false,.aq .nil 0 [],.int .i64 0,.aq .nil 0 []] []) fun cK=>
   Do (aH H1 6 (.ptr dK 0) cK) fun dW=>
   Do (J dW 6 true (.ptr dK 0)) fun cO=>
   Q (.aM [cO,(.int .i64 e)]) dW:=by
  intro e H1 ef he h;rw[Mc];simp only[aa];rw[ef.put (n:=6) rfl rfl rfl];simp only[aa];rw[(ef.set _).all (n:=6) rfl];simp only[aa];refine fin _ _ ?_;unfold mB;rw[h,if_neg he]
 have zR : ak (S.TL Φ (aQ aK.cells vars) (.av x.cells) (.ptr dK 0) Q) [.int .i64 (kx (vars.findIdx? fun v=>v.name==x.var))] H4:=by
  simp only[aG,S.TL,aA,bF,aa,aD];rcases BA (fun v:aK=>v.name==x.var) vars with⟨i,v,h1,h2,h3⟩|⟨h1,h2⟩
  · have aO := (List.getElem?_eq_some_iff.1 h3).1;have gI:=List.mem_of_getElem? h3;have tX:dm vars x=if iI v.type≠0 then(iI v.type,v.type)else m_ v.type x.parts:=by unfold dm;rw[h2]
    rw[h1,if_neg (by show ¬(decide ((i:Int)<0)=true);rw[decide_eq_true_eq];omega)];simp only[kx];rw[d_ aO];simp only[aa,iB,ab,Ue v H4 h3,bw,be,if_true];rw[fC _ _ _ 6 v.type.len v.type.scalar rfl];simp only[aa];rw[jQ,mK v.type.len];simp only[aa];have awu:At (H4.push (.row v.type.cells)) H4.n (.row v.type.cells):=At.new H4 _;have bU:dK≠H4.n:=we.qR;have agW:At (H4.push (.row v.type.cells)) dK (.row gZ):=we.push _;generalize (H4.push (.row v.type.cells))=H5 at *;generalize H4.n=jn at *;refine U_ v gI _ _ ?_;have ahx:∀(e:Int)(H1:AH),At H1 dK (.row gZ)→e≠0→(dm vars x).1=e→ak (S.HO Φ (.ptr dK 0) (.ptr jn 0) Q) [.int .i64 e] H1:=by intro e H1 a3 he hp;simp only[aG,S.HO,aA,eK,aa,aD];rw[if_pos (by simpa using he)];exact bad e H1 a3 he hp
    have axQ:∀(t:aE)(H1:AH),At H1 dK (.row gZ)→At H1 jn (.row t.cells)→dm vars x=(0,t)→ak (S.HO Φ (.ptr dK 0) (.ptr jn 0) Q) [.int .i64 0] H1:=by intro t H1 a3 a28 hp;simp only[aG,S.HO,aA,eK,aa,aD];rw[if_neg (by decide),a28.all t.len];simp only[aa];rw[a3.put (n:=6) rfl t.len t.scalar];simp only[aa];rw[(a3.set _).all t.len];simp only[aa];refine fin _ _ ?_;rw[hp];rfl
    have stop:∀(e:Int)(k:Nat)(H1:AH),At H1 dK (.row gZ)→e≠0→(dm vars x).1=e→aB (S.BL Φ (.av x.cells) (.ptr dK 0) (.ptr jn 0) Q) ([.int .i64 e,.int .i64 k],H1):=by
     intro e k H1 a3 he hp;refine aB.step ?_;simp only[S.BL,aA,cv,BO,Ch,cu,aa,bF,ck,cn];have fj:(e==0)=false:=by simpa using he
     refine aN (fun _=>?_) (fun _=>?_)
     · simp only[aG,S.Eb,aA,aD,fj,Bool.false_eq_true,if_false];exact ahx e H1 a3 he hp
     · simp only[aG,S.Eb,aA,aD,Bool.false_eq_true,if_false];exact ahx e H1 a3 he hp
    by_cases yl:iI v.type=0
    · rw [if_neg (by simpa using yl)]at tX;rw[yl];have main : ∀(ps:List a_)(i:Nat)(t:aE)(H1:AH),x.parts.drop i=ps→At H1 dK (.row gZ)→At H1 jn (.row t.cells)→ed t=0→m_ t ps=dm vars x →
        aB (S.BL Φ (.av x.cells) (.ptr dK 0) (.ptr jn 0) Q) ([.int .i64 0,.int .i64 i],H1):=by
       intro ps;induction ps with
       | nil=>intro i t H1 hd a3 a28 aX kW;have hle:=fe hd;refine aB.step ?_;simp only[S.BL,aA,cv,BO,Ch,cu,aa,bF,ck];rw[if_neg (by simp only[decide_eq_true_eq];omega)];simp only[aG,S.Eb,aA,aD,Bool.false_eq_true,if_false];exact axQ t H1 a3 a28 (by rw[←kW];rfl)
       | cons p ps ih=>
        intro i t H1 hd a3 a28 aX kW;obtain⟨aO,hp,bC⟩:=eX hd;refine aB.step ?_;simp only[S.BL,aA,cv,BO,Ch,cu,aa,bF,ck];rw[if_pos (by simp only[decide_eq_true_eq];omega)];simp only[cn,aa,aG,S.Eb,aA,aD,BEq.rfl,if_true,S.ab8,cv,BO,Ch];rw[d_ aO];simp only[aa];rw[gO a_.len (by decide) _ hp];simp only[aa,bw,be,if_true];rw[fC _ _ _ 2 p.len p.scalar rfl];simp only[aa,ab,Nat.zero_add,Nat.add_zero];have b3:=a3.push (.row p.cells);have wg:=a28.push (.row p.cells);have Fz:=At.new H1 (.row p.cells);have aCB:jn≠H1.n:=a28.qR;generalize H1.push (.row p.cells)=H2 at *;generalize H1.n=xA at *;have m1:∀{H'},At H' xA (.row p.cells)→J H' 1 false (.ptr xA 1)=some (aQ aF.cells p.index):=fun h=>by rw[h.load];exact pc1 p
        have m0:∀{H'},At H' xA (.row p.cells)→J H' 1 false (.ptr xA 0)=some (.str p.field):=fun h=>by rw[h.load];exact pc0 p
        have t0:∀{H'},At H' jn (.row t.cells)→J H' 1 false (.ptr jn 0)=some (.int .i64 t.kind):=fun h=>by rw[h.load];exact tc0 t
        have t3:∀{H'},At H' jn (.row t.cells)→J H' 1 false (.ptr jn 3)=some (aQ aP.cells t.fields):=fun h=>by rw[h.load];exact tc3 t
        have t5:∀{H'},At H' jn (.row t.cells)→J H' 1 false (.ptr jn 5)=some (aQ aE.cells t.elem):=fun h=>by rw[h.load];exact tc5 t
        simp only[m1 Fz,aa,cu,cn];simp only[m_]at kW;generalize hL:aB (S.BL Φ (.av x.cells) (.ptr dK 0) (.ptr jn 0) Q)=L at *;have agx:∀(u:aE)(H3:AH),At H3 dK (.row gZ)→At H3 jn (.row u.cells)→fU t p=(0,u)→ak (S.BW Φ ([.int .i64 0,.int .i64 i],H1) L Q) [.int .i64 0] H3:=by
         intro u H3 c3 Db hu;simp only[aG,S.BW,aA,cv,cp,aa];rw[wrap_i64 (by omega) (by omega),show((i:Int)+1)=((i+1:Nat):Int) by simp];rw[hu,if_neg (by simp)]at kW;have hsu:ed u=0:=by have:=aaN (x:=p) aX (by rw[hu]);rw[hu]at this;exact this
         exact ih (i+1) u H3 bC c3 Db hsu kW
        have nj:∀(e:Int)(H3:AH),At H3 dK (.row gZ)→e≠0→(fU t p).1=e→ak (S.BW Φ ([.int .i64 0,.int .i64 i],H1) L Q) [.int .i64 e] H3:=by intro e H3 c3 he hu;simp only[aG,S.BW,aA,cv,cp,aa];rw[wrap_i64 (by omega) (by omega),show((i:Int)+1)=((i+1:Nat):Int) by simp];rw[if_pos (by rw[hu];exact he)]at kW;exact stop e (i+1) H3 c3 he (by rw[←kW,hu])
        have k8 : ∀b:Bool,(b=true↔(p.index.length=0∧p.field≠[]∧(t.kind=3∨t.kind=4)))→¬(p.index.length=1∧p.field=[]∧t.kind=5)→ak (S.Iv Φ (.ptr jn 0) (.ptr xA 0) ([.int .i64 0,.int .i64 i],H1) L Q) [.bool b] H2:=by
         intro b hb yi;simp only[aG,S.Iv,aA,aD];refine aN (fun h=>?_) (fun h=>?_)
         · obtain ⟨g1,g2,g3⟩:=hb.1 h;have Qo:fU t p=match t.fields.find? (fun f=>f.name==p.field)with|some f=>(0,f.type)|none=>(6,t):=by
            unfold fU;rw[if_neg (by rw[g1];simp[g2]),if_neg (by rw[g1];simp),if_neg (by rw[g1];simp[g3])];all_goals (cases t.fields.find? (fun f=>f.name==p.field)<;>rfl)
           rw[Mc];simp only[aa,bw,be,if_true];have c3:=b3.push (.row gZ);have Db:=wg.push (.row gZ);have c53:=Fz.push (.row gZ);have agX:=At.new H2 (.row gZ);have n3:dK≠H2.n:=b3.qR;have Lv:jn≠H2.n:=wg.qR;have n53:xA≠H2.n:=Fz.qR;change Do (aH (H2.push (.row gZ)) 6 (.ptr H2.n 0) (.agg gZ)) _;generalize H2.push (.row gZ)=H6 at *;generalize H2.n=FM at *;rw[agX.put (n:=6) rfl rfl rfl];simp only[aa];have d3:=c3.dq n3 (.row gZ);have d28:=Db.dq Lv (.row gZ);have d53:=c53.dq n53 (.row gZ);have d94:=agX.set (.row gZ);generalize H6.set FM (.row gZ)=H7 at *;have k5:∀(e:Int)(cs:List AV)(H8:AH),At H8 dK (.row gZ)→At H8 jn (.row t.cells)→At H8 FM (.row cs)→cs.length=6→cs.all AV.scalar=true→((e=0∧∃u:aE,cs=u.cells∧fU t p=(0,u))∨(e≠0∧(fU t p).1=e)) →
             ak (S.Pk Φ (.ptr jn 0) (.ptr FM 0) ([.int .i64 0,.int .i64 i],H1) L Q) [.int .i64 e] H8:=by
            intro e cs H8 e3 KA XM jZ yc hc;simp only[aG,S.Pk,aA];rw[XM.all jZ];simp only[aa];rw[KA.put t.len jZ yc];simp only[aa];rcases hc with⟨rfl,u,rfl,hu⟩|⟨he,hu⟩
            ·exact agx u _ (e3.dq bU _) (KA.set _) hu
            ·exact nj e _ (e3.dq bU _) he hu
           have au8:∀(r:List aP)(j:Nat),t.fields.drop j=r→t.fields.find? (fun f=>f.name==p.field)=r.find? (fun f=>f.name==p.field) →
             aB (S.Iw Φ (.ptr jn 0) (.ptr xA 0) (.ptr FM 0) ([.int .i64 0,.int .i64 i],H1) L Q) ([.int .i64 6,.int .i64 j],H7):=by
            intro r;induction r with
            | nil=>intro j Ya zF;have hle:=fe Ya;refine aB.step ?_;simp only[S.Iw,aA,cv,ab,Nat.zero_add,t3 d28,cu,aa,bF,ck];rw[if_neg (by simp only[decide_eq_true_eq];omega)];simp only[aG,S.EE,aA,aD,Bool.false_eq_true,if_false];refine k5 6 gZ H7 d3 d28 d94 rfl rfl (.inr ⟨by decide,?_⟩);rw[Qo,zF];rfl
            | cons f r ih7=>
             intro j Ya zF;obtain⟨aw6,hx7,awU⟩:=eX Ya;have pR:t.fields.length≤32:=(Ae aX g3).2;refine aB.step ?_;simp only[S.Iw,aA,cv,ab,Nat.zero_add,t3 d28,cu,aa,bF,ck];rw[if_pos (by simp only[decide_eq_true_eq];omega)];simp only[eK,aa,aG,S.EE,aA,aD];rw[if_pos (by decide)];simp only[S.ad5,aA,cv,ab,Nat.zero_add,Nat.add_zero,t3 d28,aa];rw[d_ aw6];simp only[aa,iB,ab,Z4 H7 hx7,m0 d53,lq,aD,Z5 H7 hx7];rw[List.find?_cons]at zF;refine kL (fun h=>?_) (fun h=>?_)
             · rw [h]at zF;simp only at zF;rw[d94.put (n:=6) rfl f.type.len f.type.scalar];simp only[aa,aG,S.Pj,aA,cv,cp];rw[wrap_i64 (by omega) (by omega),show((j:Int)+1)=((j+1:Nat):Int) by simp];have e3:=d3.dq n3 (.row f.type.cells);have KA:=d28.dq Lv (.row f.type.cells);have XM:=d94.set (.row f.type.cells);generalize H7.set FM (.row f.type.cells)=H8 at *;have Wx:ak (S.Pk Φ (.ptr jn 0) (.ptr FM 0) ([.int .i64 0,.int .i64 i],H1) L Q) [.int .i64 0] H8:=
                k5 0 f.type.cells H8 e3 KA XM f.type.len f.type.scalar (.inl ⟨rfl,f.type,rfl,by rw[Qo,zF]⟩)
               refine aB.step ?_;simp only[S.Iw,aA,cv,ab,Nat.zero_add,t3 KA,cu,aa,bF,ck];refine aN (fun _=>?_) (fun _=>?_)
               · simp only[eK,aa,aG,S.EE,aA,aD];rw[if_neg (by decide)];exact Wx
               · simp only[aG,S.EE,aA,aD,Bool.false_eq_true,if_false];exact Wx
             · rw[h]at zF;simp only at zF;simp only[aG,S.Pj,aA,cv,cp,aa];rw[wrap_i64 (by omega) (by omega),show((j:Int)+1)=((j+1:Nat):Int) by simp];exact ih7 (j+1) awU zF
           exact au8 t.fields 0 rfl rfl
         · have hn:¬(p.index.length=0∧p.field≠[]∧(t.kind=3∨t.kind=4)):=fun y=>h (hb.2 y);refine nj 8 H2 b3 (by decide) ?_;unfold fU;by_cases c1:1<p.index.length∨(p.index.length=1↔p.field≠[])
           ·rw[if_pos c1]
           · rw [if_neg c1];by_cases c2:p.index.length=1∧t.kind=5
             · exfalso;refine yi ⟨c2.1,?_,c2.2⟩;by_cases Gq:p.field=[]
               ·exact Gq
               ·exact absurd (.inr ⟨fun _=>Gq,fun _=>c2.1⟩) c1
             · rw [if_neg c2];by_cases c3:p.index.length=1∨¬(t.kind=3∨t.kind=4)
               ·rw[if_pos c3]
               · exfalso;have n_:p.index.length=0:=by omega
                 refine hn ⟨n_,?_,by omega⟩;intro Gq;exact c1 (.inr ⟨fun y=>by omega,fun y=>absurd Gq y⟩)
        have k9:∀b:Bool,(b=true↔(p.index.length=0∧p.field≠[]))→¬(p.index.length=1∧p.field=[]∧t.kind=5)→ak (S.Pl Φ (.ptr jn 0) (.ptr xA 0) ([.int .i64 0,.int .i64 i],H1) L Q) [.bool b] H2:=by
         intro b hb yi;simp only[aG,S.Pl,aA,ck,ab,Nat.add_zero,t0 wg,aa,cn,cj];refine kL (fun h=>?_) (fun h=>?_)
         · obtain ⟨g1,g2⟩:=hb.1 h;refine qM (fun h3=>?_) (fun h3=>?_)
           · refine k8 _ ?_ yi;have zx:t.kind≠3:=by simpa using h3
             simp[g1,g2,zx]
           · refine k8 _ ?_ yi;have zx:t.kind=3:=by simpa using h3
             simp[g1,g2,zx]
         · refine k8 _ ?_ yi;have:¬(p.index.length=0∧p.field≠[]):=fun y=>by have:=hb.2 y;rw[h]at this;cases this
           constructor
           ·intro y;cases y
           ·intro y;exact absurd ⟨y.1,y.2.1⟩ this
        have lU:∀b:Bool,(b=true↔(p.index.length=1∧p.field=[]∧t.kind=5))→ak (S.Nx Φ (.ptr jn 0) (.ptr xA 0) ([.int .i64 0,.int .i64 i],H1) L Q) [.bool b] H2:=by
         intro b hb;simp only[aG,S.Nx,aA,aD];refine aN (fun h=>?_) (fun h=>?_)
         · obtain⟨g1,g2,g3⟩:=hb.1 h;obtain⟨e,fA,Bb⟩:=wZ aX g3;simp only[ab,Nat.zero_add,t5 wg,aa];have ha:bj none 6 (aQ aE.cells t.elem) (.int .i64 0)=some (iB aE.cells 6 t.elem 0):=d_ (by rw[fA];simp);rw[ha];simp only[aa];rw[gO aE.len (by decide) _ (show t.elem[0]?=some e by rw[fA];rfl)];simp only[aa];rw[wg.put t.len e.len e.scalar];simp only[aa,aA];refine agx e _ (b3.dq bU _) (wg.set _) ?_;unfold fU;rw[if_neg (by rw[g1,g2];simp),if_pos ⟨g1,g3⟩,fA]
         · have yi:¬(p.index.length=1∧p.field=[]∧t.kind=5):=fun y=>h (hb.2 y);simp only[ab,Nat.zero_add,Nat.add_zero,m1 Fz,m0 Fz,aa,cu,cn,yw,ck];refine kL (fun h0=>?_) (fun h0=>?_)
           · refine k9 _ ?_ yi;have XW:p.index.length=0:=by simp only[beq_iff_eq]at h0;omega
             simp[XW]
           · refine k9 _ ?_ yi;have XW:p.index.length≠0:=by simp only[beq_eq_false_iff_ne,ne_eq]at h0;omega
             simp[XW]
        have iK:∀b:Bool,(b=true↔(p.index.length=1∧p.field=[]))→ak (S.Ny Φ (.ptr jn 0) (.ptr xA 0) ([.int .i64 0,.int .i64 i],H1) L Q) [.bool b] H2:=by
         intro b hb;simp only[aG,S.Ny,aA,ck,ab,Nat.add_zero,t0 wg,aa,cn];refine kL (fun h=>?_) (fun h=>?_)
         · obtain⟨g1,g2⟩:=hb.1 h;refine lU _ ?_;simp[g1,g2]
         · refine lU _ ?_;have:¬(p.index.length=1∧p.field=[]):=fun y=>by have:=hb.2 y;rw[h]at this;cases this
           constructor
           ·intro y;cases y
           ·intro y;exact absurd ⟨y.1,y.2.1⟩ this
        simp only[ck,m0 Fz,aa,lq];refine kL (fun h=>?_) (fun h=>?_)
        · refine iK _ ?_;have h':p.index.length=1:=by simp only[beq_iff_eq]at h;omega
          simp[h']
        · refine iK _ ?_;have h':p.index.length≠1:=by simp only[beq_eq_false_iff_ne,ne_eq]at h;omega
          simp[h']
      exact main x.parts 0 v.type H5 rfl agW awu (aln yl) tX.symm
    · rw[if_pos yl]at tX;exact stop _ 0 H5 agW yl (by rw[tX])
  · rw[h1,if_pos (by simp[kx])];exact bad 6 _ we (by decide) (by unfold dm;rw[h2])
 have main:∀(k:Nat),k≤vars.length→aB (S.HP Φ (aQ aK.cells vars) (.av x.cells) (.ptr dK 0) Q) ([.int .i64 (kx (((vars.drop k).findIdx? fun v=>v.name==x.var).map (·+ k))),.int .i64 ((k:Int)-1)],H4):=by
  intro k;induction k with
  | zero=>
   intro _;refine aB.step ?_;simp only[S.HP,aA,cv,kG,aa,aD];rw[if_neg (by decide)];have:((vars.drop 0).findIdx? fun v=>v.name==x.var).map (·+ 0)=vars.findIdx? fun v=>v.name==x.var:=by rw[List.drop_zero];cases (vars.findIdx? fun v=>v.name==x.var)<;>rfl
   rw[this];exact zR
  | succ k ih=>
   intro hk;have aO:k<vars.length:=by omega
   obtain⟨v,hv⟩:∃v,vars[k]?=some v:=⟨_,List.getElem?_eq_getElem aO⟩
   have hdk:vars.drop k=v::vars.drop (k+1):=by rw[List.drop_eq_getElem_cons aO];rw[List.getElem?_eq_getElem aO]at hv;simp at hv;rw[hv]
   have GC:=ih (by omega);rw[hdk,List.findIdx?_cons]at GC;have ek:(((k+1:Nat):Int)-1)=(k:Int):=by omega
   rw[ek];refine aB.step ?_;simp only[S.HP,aA,cv,kG,aa,aD];rw[if_pos (by simp only[decide_eq_true_eq];omega),d_ aO];have I9:J H4 1 false (.av (((vars.flatMap aK.cells).drop (k*7)).drop 0))=some (.str v.name):=by show cC _ 0 1 false=_;rw[List.drop_zero,sU aK.len,hdk,List.flatMap_cons,aK.cells];rfl
   simp only[aa,iB,ab,I9,VL,lq,aD];have next:∀z:Int,z=kx ((if(v.name==x.var)=true then some 0 else((vars.drop (k+1)).findIdx? fun v=>v.name==x.var).map (·+ 1)).map (·+ k)) →
     ak (S.Ph Φ ([.int .i64 (kx (((vars.drop (k+1)).findIdx? fun v=>v.name==x.var).map (·+ (k+1)))),.int .i64 k],H4) (aB (S.HP Φ (aQ aK.cells vars) (.av x.cells) (.ptr dK 0) Q)) Q) [.int .i64 z] H4:=by
    intro z hz;simp only[aG,S.Ph,aA,cv,nM,aa];rw[wrap_i64 (by omega) (by omega),hz];exact GC
   refine kL (fun h=>next _ ?_) (fun h=>next _ ?_)
   ·rw[if_pos h];simp[kx]
   · rw[h,if_neg (by decide)];cases (vars.drop (k+1)).findIdx? fun v=>v.name==x.var with
     |none=>rfl
     |some j=>simp[kx];omega
 have:=main vars.length (Nat.le_refl _);rw[List.drop_length]at this;rw[wrap_i64 (by omega) (by omega)];exact this
end
theorem alg{x:aT}(h:x.ok):x.parts.length≤maxLen∧∀p∈x.parts,p.index.length≤maxLen:=by
 cases x with
 | mk var parts=>
  obtain⟨_,h2,h3⟩:=h;refine⟨h2,fun p hp=>?_⟩;have:=a_.iW.1 h3 p hp;cases p with
  |mk field index=>exact this.2.1
section
variable{C:Ctx}(aw:dz C)(hT:Cl (au C) S.cH)
include aw hT
theorem akB(vars:List aK)(x:aT)(hl:vars.length≤maxLen)(hv:∀v∈vars,v.ok)(hx:x.ok):cG (au C) K.f63 [aQ aK.cells vars,.agg x.cells] (mB (dm vars x)):=by
 have hp:=alg hx;have hm:maxLen=9223372036854775807:=by decide
 rw[hm]at hp hl;exact cG.of aw (by simp[AV.dD,AV.cD,aT.cD,zZ aK.cD]) (SW _) fun Q hQ=>S.arn hT (akd hT hl hp.1 (fun v u7=>ZD aw hT v.type (hv v u7).2) hQ)
end
end Rb

namespace Rb
open Go
theorem acf(vars:List aK):∀(l:List aF)(s:aS)(d:Int),kK vars s d l=eH vars s d l
 |[],s,d=>by rw[kK,eH]
 | e::r,s,d=>by
  rw[kK,eH,acf vars r];by_cases h:s.aV≠0
  ·rw[if_pos h,abP vars h]
  ·rw[if_neg h]
def QB(C:Ctx)(id:Nat)(vars:List aK)(l:List aF):Prop:=∀(s:aS)(nx:AV)(d:Int)(H:AH)(Q:ae),At H id (.row (fo vars s))→AB nx s.locals→s.locals.length≤1000→0≤d→d≤100→(∀H',cM id H H'→At H' id (.row (fo vars (eH vars s d l)))→(eH vars s d l).locals=s.locals→Q (.aM []) H')→au C K.f40 [.ptr id 0,aQ aF.cells l,nx,.int .i64 d] H Q
section
variable{C:Ctx}(aw:dz C)(hT:Cl (au C) S.cH){id:Nat}{vars:List aK}
include aw hT
theorem aae(hl:vars.length≤maxLen)(hv:∀v∈vars,v.ok){x:aT}(hx:x.ok)(hI:∀p∈x.parts,QB C id vars p.index){s:aS}{nx:AV}{k d:Int}{H:AH}{Q:ae}(h:At H id (.row (fo vars s)))(hn:AB nx s.locals)(Dq:s.locals.length≤1000)(d0:0≤d)(d1:d≤100)
  (hQ:∀H',cM id H H'→At H' id (.row (fo vars (mI vars s k d x)))→(mI vars s k d x).locals=s.locals→Q (.aM []) H'):au C K.f39 [.ptr id 0,.int .i64 k,.agg x.cells,nx,.int .i64 d] H Q:=by
 obtain⟨Lc,hxp⟩:=aT.eS hx;refine S.aqY hT ?_;unfold S.f39;rw[Ve]at hQ;have l4:∀(s':aS)(H':AH),At H' id (.row (fo vars s'))→J H' 1 false (.ptr id (3+1))=some (.int .i64 s'.aV):=fun s' H' h'=>by rw[h'.load];rfl
 have l0:∀(s':aS)(H':AH),At H' id (.row (fo vars s'))→J H' 1 false (.ptr id 0)=some (aQ aK.cells vars):=fun s' H' h'=>by rw[h'.load];rfl
 simp only[BP,bw,bR,ab,Nat.zero_add,aa,l4 s H h,eK,aD];refine aN (fun q=>?_) (fun q=>?_)
 · rw[if_pos (by simpa using q)]at hQ;exact hQ H (cM.refl id H) h rfl
 have hz:s.aV=0:=by simpa using q
 rw[if_neg (by simpa using hz)]at hQ;simp only[l0 s H h,T7,aa];refine akB aw hT vars x hl hv hx _ _ ?_;rw[ac7];simp only[db,List.getElem?_cons_zero,List.getElem?_cons_succ,aa,be,if_true,bw];rw[fC H _ (np (dm vars x)) 6 (SV _) (ZF _) rfl];have h1:=h.push (.row (np (dm vars x)));have w1:=At.new H (.row (np (dm vars x)));have k1:=cM.push id H (.row (np (dm vars x)));have gC:=h.1;refine⟨l0 s _ (h.push _),trivial,?_⟩;generalize H.push (.row (np (dm vars x)))=H1 at *;simp only[aa,cn];refine oU aw hT h1 _ _ fun H2 k2 h2=>?_;have w2:=k2.2 _ _ (by omega) w1;unfold qS at hQ;dsimp only at hQ;generalize ym:s.cZ ((dm vars x).1==0) (dm vars x).1=s1 at *;have QR:s1.locals=s.locals:=by rw[←ym,iH]
 simp only[gk,aa,aD];refine aN (fun q=>?_) (fun q=>?_)
 · have q:s1.aV≠0:=by simpa using q
   rw[oV q,abo vars q]at hQ;exact hQ H2 (k1.trans k2) h2 QR
 have tZ:s1.aV=0:=by simpa using q
 have hp0:(dm vars x).1=0:=by
  have hh:(s.cZ ((dm vars x).1==0) (dm vars x).1).aV=0:=by rw[ym];exact tZ
  by_cases e:(dm vars x).1=0
  ·exact e
  ·simpa using(jj hh e).2
 have htc:np (dm vars x)=(dm vars x).2.cells:=by unfold np;rw[if_pos hp0]
 rw[htc]at w2;rw[show(s1.aV != 0||mO k (dm vars x).2)=mO k (dm vars x).2 by rw[tZ];rfl]at hQ;generalize (dm vars x).2=t at *;have t0:∀H',At H' H.n (.row t.cells)→J H' 1 false (.ptr H.n 0)=some (.int .i64 t.kind):=fun H' h'=>by rw[h'.load,aE.bf];rfl
 have t1:∀H',At H' H.n (.row t.cells)→J H' 1 false (.ptr H.n 1)=some (.int .i64 t.size):=fun H' h'=>by rw[h'.load,aE.bf];rfl
 have yq:S.Im (au C) (.ptr id 0) nx (.int .i64 d) (.av x.cells) Q [.bool (mO k t)] H2:=by
  unfold S.Im;simp only[aA];refine oU aw hT h2 _ _ fun H3 k3 h3=>?_;have wv:(s1.cZ (mO k t) 8).locals=s.locals:=by rw[iH,QR]
  have main:∀(r:List a_)(i:Nat)(s':aS)(H5:AH),x.parts.drop i=r→cM id H H5→At H5 id (.row (fo vars s'))→s'.locals=s.locals→iZ vars s' d r=iZ vars (s1.cZ (mO k t) 8) d x.parts→aB (S.OL (au C) (.ptr id 0) nx (.int .i64 d) (.av x.cells) Q) ([.int .i64 i],H5):=by
   intro r;induction r with
   | nil=>intro i s' H5 hd k5 h5 wx he;have hle:=fe hd;rw[iZ]at he;refine aB.step ?_;simp only[S.OL,aA,BE,An,cu,aa,bF,aD];rw[if_neg (by simp only[decide_eq_true_eq];omega)];exact hQ H5 k5 (by rw[←he];exact h5) (by rw[←he];exact wx)
   | cons p r ih=>
    intro i s' H5 hd k5 h5 wx he;obtain⟨aO,zI,bC⟩:=eX hd;rw[iZ,Vf,acf]at he;refine aB.step ?_;simp only[S.OL,aA,BE,An,cu,aa,bF,aD];rw[if_pos (by simp only[decide_eq_true_eq];omega),d_ aO];simp only[aa];obtain ⟨pa,e1,e2⟩:∃pa,ab 1 (iB a_.cells 2 x.parts i)=some pa∧∀H,J H 1 false pa=some (aQ aF.cells p.index):=by
     refine⟨.av (((x.parts.flatMap a_.cells).drop (i*2)).drop 1),rfl,fun H=>?_⟩;show cC (((x.parts.flatMap a_.cells).drop (i*2)).drop 1) 0 1 false=_;rw[TN a_.len,List.drop_eq_getElem_cons aO,List.flatMap_cons];rw[List.getElem?_eq_getElem aO]at zI;cases zI;generalize x.parts[i]=p;cases p with
     | mk field index=>rw[a_.bf];show cC (aQ aF.cells index::_) 0 1 false=some (aQ aF.cells index);unfold cC;rw[if_pos (by simp)];rfl
    simp only[e1,e2,aa];refine hI p (List.mem_of_getElem? zI) s' nx d H5 _ h5 (by rw[wx];exact hn) (by rw[wx];exact Dq) d0 d1 fun H6 k6 h6 Ru=>?_;simp only[cp,aa];rw[wrap_i64 (by omega) (by omega),show(i:Int)+1=((i+1:Nat):Int) by simp];exact ih (i+1) _ H6 bC (k5.trans k6) h6 (Ru.trans wx) he
  exact main x.parts 0 _ H3 rfl ((k1.trans k2).trans k3) h3 wv rfl
 have kk3:∀b c:Bool,(b=true↔(k=5∨k=6))→(b=false→c=mO k t)→S.OH (au C) (.ptr id 0) nx (.int .i64 d) (.av x.cells) (.ptr H.n 0) [.bool c] Q [.bool b] H2:=by
  intro b c hb hc;unfold S.OH;simp only[aA,aD,aG];refine aN (fun q=>?_) (fun q=>?_)
  · have hk:=hb.1 q;have hf:mO k t=(t.kind==2&&t.size==16):=by unfold mO;rw[if_neg (by omega),if_pos hk]
    rw[hf]at yq;simp only[ab,Nat.zero_add,t0 H2 w2,aa,cn,ck];refine aN (fun z=>?_) (fun z=>?_)
    · simp only[t1 H2 w2,aa,cn];rw[z,Bool.true_and]at yq;exact yq
    · have z:(t.kind==2)=false:=by simpa using z
      rw[z,Bool.false_and]at yq;exact yq
  · rw[hc (by simpa using q)];exact yq
 have DD:∀c:Bool,(¬(k=5∨k=6)→c=mO k t)→S.OI (au C) (.ptr id 0) (.int .i64 k) nx (.int .i64 d) (.av x.cells) (.ptr H.n 0) Q [.bool c] H2:=by
  intro c hc;unfold S.OI;simp only[cn,aa,cj,aG];refine gG (fun q=>?_) (fun q=>?_)
  · have q:¬k=5:=by simpa using q
    refine kk3 _ c ⟨fun z=> .inr (by simpa using z),fun z=>?_⟩ (fun z=>hc ?_)
    · rcases z with z|z
      ·exact absurd z q
      ·simpa using z
    · have z:¬k=6:=by simpa using z
      omega
  · have q:k=5:=by simpa using q
    exact kk3 true c ⟨fun _=> .inl q,fun _=>rfl⟩ (fun z=>by cases z)
 have Lq:∀c:Bool,c=(t.kind==2&&decide (t.size≤8))→S.OK (au C) (.ptr id 0) (.int .i64 k) nx (.int .i64 d) (.av x.cells) (.ptr H.n 0) Q [.bool c] H2:=by
  intro c hc;have uc:∀b:Bool,(b=true↔(k=3∨k=14))→S.OJ (au C) (.ptr id 0) (.int .i64 k) nx (.int .i64 d) (.av x.cells) (.ptr H.n 0) [.bool c] Q [.bool b] H2:=by
   intro b hb;unfold S.OJ;simp only[aA,aD,aG];refine aN (fun q=>?_) (fun q=>?_)
   · have hk:=hb.1 q;simp only[ab,Nat.zero_add,t0 H2 w2,aa,cn];refine DD _ (fun _=>?_);unfold mO;rw[if_pos hk]
   · have hk:¬(k=3∨k=14):=fun z=>q (hb.2 z);refine DD _ (fun z=>?_);unfold mO;rw[if_neg hk,if_neg z];exact hc
  unfold S.OK;simp only[cn,aa,cj,aG];refine gG (fun q=>?_) (fun q=>?_)
  · have q:¬k=3:=by simpa using q
    refine uc _ ⟨fun z=> .inr (by simpa using z),fun z=>?_⟩;rcases z with z|z
    ·exact absurd z q
    ·simpa using z
  · have q:k=3:=by simpa using q
    exact uc true ⟨fun _=> .inl q,fun _=>rfl⟩
 simp only[t0 H2 w2,aa,cn,ck,aG];refine aN (fun z=>?_) (fun z=>?_)
 · simp only[ab,Nat.zero_add,t1 H2 w2,aa,mL];exact Lq _ (by rw[z,Bool.true_and])
 · have z:(t.kind==2)=false:=by simpa using z
   exact Lq false (by rw[z,Bool.false_and])
end
end Rb

namespace Rb
open Go
section
variable{Φ:aj}{k o:Int}{H:AH}{Q:ae}
theorem alh(s:List UInt8)(hs:s.length<1000)(hd:∀c∈s,48≤c.toNat∧c.toNat≤57)(hQ:Q (.bool (s.any fun c=>o==((c.toNat:Int)-48))) H):S.Ai Φ (.int .i64 o) Q [.str s] H:=by
 unfold S.Ai;have main:∀(ys:List UInt8)(i:Nat),s.drop i=ys→Q (.bool (ys.any fun c=>o==((c.toNat:Int)-48))) H→aB (S.OE Φ (.int .i64 o) [.str s] Q) ([.int .i64 i],H):=by
  intro ys;induction ys with
  | nil=>
   intro i hi hq;have:s.length≤i:=by simpa using hi
   refine aB.step ?_;simp only[S.OE,aA,DV,bF,aa,aD];rw[if_neg (by simp;omega)];simpa using hq
  | cons y ys ih=>
   intro i hi hq;obtain⟨aO,hy,bC⟩:=eX hi;have hm:=hd y (List.mem_of_getElem? hy);refine aB.step ?_;simp only[S.OE,aA,DV,bF,aa,aD];rw[if_pos (by simp;omega)];have hx:oz (.str s) (.int .i64 i)=some (.int .u8 y.toNat):=by simp only[oz];rw[if_pos (by omega)];simp[hy]
   rw[hx];simp only[aa,nM,vg];rw[wrap_u8 (by omega) (by omega),wrap_i64 (by omega) (by omega)];simp only[cn,aa,aD];by_cases he:(o==((y.toNat:Int)-48))=true
   · rw[if_pos he];rw[List.any_cons,he]at hq;simpa using hq
   · rw[if_neg he];simp only[Bool.not_eq_true]at he;rw[List.any_cons,he]at hq;simp only[cp,aa];rw[wrap_i64 (by omega) (by omega),show((i:Int)+1)=((i+1:Nat):Int) by simp];exact ih (i+1) bC (by simpa using hq)
 exact main s 0 rfl hQ
theorem ali(hQ:Q (.bool (kP k o)) H):S.f37 Φ (.int .i64 k) (.int .i64 o) H Q:=by
 have e:∀b:Bool,b=kP k o→Q (.bool b) H:=fun b h=>by rw[h];exact hQ
 have l:∀s:List UInt8,s.length<1000→(∀c∈s,48≤c.toNat∧c.toNat≤57)→(s.any fun c=>o==((c.toNat:Int)-48))=kP k o→S.Ai Φ (.int .i64 o) Q [.str s] H:=fun s h1 h2 h3=>alh s h1 h2 (e _ h3);simp only[S.f37,S.OD,S.UC,S.UD,aG,aA,cn,aa,aD]
 repeat' (refine aN (fun h=>?_) (fun h=>?_))
 all_goals (refine l _ (by decide) (by decide) ?_;simp only[beq_iff_eq]at *;first|(subst_vars;simp[kP];done)|(subst_vars;simp[kP];rw[Bool.eq_iff_iff];simp;omega)|(simp_all [kP];done)|(simp_all [kP];rw[Bool.eq_iff_iff];simp;omega)|skip)
end
section
variable{C:Ctx}(hT:Cl (au C) S.cH)
include hT
theorem ZC(k o:Int):cG (au C) K.f37 [.int .i64 k,.int .i64 o] (.bool (kP k o)):=fun H Q hQ=>S.aqW hT (ali hQ)
end
end Rb

namespace Rb
open Go
theorem auT{H:AH}{id:Nat}{e:aF}(h:At H id (.row e.cells)):J H 1 false (.ptr id 2)=some (.str e.name):=by rw[h.load,aF.bf,aT.bf];rfl
theorem auU{H:AH}{id:Nat}{e:aF}(h:At H id (.row e.cells)):J H 1 false (.ptr id 4)=some (.int .i64 e.order):=by rw[h.load,aF.bf,aT.bf];rfl
def afT(C:Ctx)(id:Nat)(vars:List aK)(e:aF):Prop:=QB C id vars e.kids∧∀p∈e.place.parts,QB C id vars p.index
section
variable{C:Ctx}(aw:dz C)(hT:Cl (au C) S.cH){id:Nat}{vars:List aK}
include aw hT
theorem NW(pY:vars.length≤maxLen)(hv:∀v∈vars,v.ok){l:List aF}(hl:l.length≤9223372036854775807)(hE:∀e∈l,e.ok∧afT C id vars e):QB C id vars l:=by
 intro s nx d H Q h hn Dq d0 d1 hQ;refine S.aqZ hT ?_;unfold S.f40;have l4:∀(s':aS)(H':AH),At H' id (.row (fo vars s'))→J H' 1 false (.ptr id (3+1))=some (.int .i64 s'.aV):=fun s' H' h'=>by rw[h'.load];rfl
 have main : ∀(r:List aF)(i:Nat)(s':aS)(H5:AH),l.drop i=r→cM id H H5→At H5 id (.row (fo vars s'))→s'.locals=s.locals→eH vars s' d r=eH vars s d l→aB (S.EA (au C) (.ptr id 0) (aQ aF.cells l) nx (.int .i64 d) Q) ([.int .i64 i],H5):=by
  intro r;induction r with
  | nil=>intro i s' H5 hd k5 h5 wx he;have hle:=fe hd;rw[eH]at he;refine aB.step ?_;simp only[S.EA,aA,cu,aa,bF,ck,aG];rw[if_neg (by simp only[decide_eq_true_eq];omega)];unfold S.OT;simp only[aA,aD];rw[if_neg (by decide)];exact hQ H5 k5 (by rw[←he];exact h5) (by rw[←he];exact wx)
  | cons e r ih=>
   intro i s' H5 hd k5 h5 wx he;obtain⟨aO,hx,bC⟩:=eX hd;obtain⟨awW,Dj,hep⟩:=hE e (List.mem_of_getElem? hx);obtain⟨⟨sB,gW⟩,gL⟩:=aF.eS awW;refine aB.step ?_;simp only[S.EA,aA,cu,aa,bF,ck,aG];rw[if_pos (by simp only[decide_eq_true_eq];omega)];simp only[bR,ab,Nat.zero_add,aa,l4 s' H5 h5,cn];unfold S.OT;simp only[aA,aD,aG];refine aN (fun q=>?_) (fun q=>?_)
   · have hz : s'.aV=0:=by simpa using q
     rw[eH,if_neg (by simpa using hz),Us]at he;unfold S.adX;simp only[aA];rw[d_ aO];simp only[aa];rw[gO aF.len (by decide) _ hx];simp only[aa,be,if_true,bw];rw[fC _ _ _ 8 e.len e.scalar rfl];have q6:=At.new H5 (.row e.cells);have h6:=h5.push (.row e.cells);have k6:=k5.trans (cM.push id H5 (.row e.cells));have n5:=h5.1;simp only[aa,bF];generalize H5.push (.row e.cells)=H6 at *;have Gy:aR (d+1)=d+1:=wrap_i64 (by omega) (by omega);rw[Gy]at he;have QO:decide (d<64)=decide (d+1≤64):=by rw[Bool.eq_iff_iff];simp;omega
     rw[QO];have hH:f_ s' (d+1) e=((s'.cZ (decide (d+1≤64)) 5).cZ (kM e) 4).cZ (kP (aR (10+e.kind)) e.order) 11:=rfl;have bad:∀(H7:AH),cM id H H7→(f_ s' (d+1) e).aV≠0→At H7 id (.row (fo vars (f_ s' (d+1) e)))→Q (.aM []) H7:=by intro H7 k7 hb h7;rw[if_pos hb,Hw vars hb]at he;exact hQ H7 k7 (by rw[←he];exact h7) (by rw[←he,LQ];exact wx)
     refine oU aw hT h6 _ _ fun H7 k7 h7=>?_;simp only[gk,aa,cj,aG];generalize ym:s'.cZ (decide (d+1≤64)) 5=s1 at *;have Ln:=k6.trans k7;have q7:=k7.2 _ _ (by omega) q6;refine gG (fun z1=>?_) (fun z1=>?_)
     · have z1:s1.aV=0:=by simpa using z1
       have awT:d+1≤64:=by have:=(jj (by rw[ym];exact z1) (by decide)).2;simpa using this
       rw[atn q7];simp only[aa];refine akt aw hT e _ _ ?_;refine oU aw hT h7 _ _ fun H8 k8 h8=>?_;simp only[gk,aa];generalize K_:s1.cZ (kM e) 4=s2 at *;have Lp:=Ln.trans k8;have q8:=k8.2 _ _ (by omega) q7;unfold S.OS;simp only[aA,cj,aG];refine gG (fun z2=>?_) (fun z2=>?_)
       · have z2:s2.aV=0:=by simpa using z2
         simp only[ab,Nat.zero_add,Vm q8,auU q8,aa,cp];refine ZC hT _ _ _ _ ?_;refine oU aw hT h8 _ _ fun H9 k9 h9=>?_;simp only[gk,aa];rw[←hH]at h9 ⊢;have GI:=Lp.trans k9;have q9:=k9.2 _ _ (by omega) q8;unfold S.Ip;simp only[aA,aD,aG];refine aN (fun z3=>?_) (fun z3=>?_)
         ·exact bad H9 GI (by simpa using z3) h9
         have z3:(f_ s' (d+1) e).aV=0:=by simpa using z3
         rw[if_neg (by simpa using z3)]at he;have cx:=LQ s' (d+1) e;generalize f_ s' (d+1) e=s3 at *;have wv:s3.locals=s.locals:=by rw[cx,wx]
         have k3:∀(s4:aS)(bZ:AH),cM id H bZ→At bZ id (.row (fo vars s4))→At bZ H5.n (.row e.cells)→s4.locals=s.locals→eH vars (eH vars (if e.kind≥4 then mI vars s4 (aR (10+e.kind)) (d+1) e.place else s4) (d+1) e.kids) d r=eH vars s d l→S.OR (au C) (.ptr id 0) nx (.int .i64 d) (.ptr H5.n 0) ([.int .i64 i],H5) (aB (S.EA (au C) (.ptr id 0) (aQ aF.cells l) nx (.int .i64 d) Q)) Q [] bZ:=by
          intro s4 bZ lU nD oQ sC zE;have k2:∀(s5:aS)(cy:AH),cM id H cy→At cy id (.row (fo vars s5))→At cy H5.n (.row e.cells)→s5.locals=s.locals→eH vars (eH vars s5 (d+1) e.kids) d r=eH vars s d l→S.OQ (au C) (.ptr id 0) nx (.int .i64 d) (.ptr H5.n 0) ([.int .i64 i],H5) (aB (S.EA (au C) (.ptr id 0) (aQ aF.cells l) nx (.int .i64 d) Q)) Q [] cy:=by intro s5 cy iK mW ug WA A5;unfold S.OQ;simp only[ab,Nat.zero_add,auW ug,aa,cp];rw[show IntKind.wrap .i64 (d+1)=d+1 from Gy];refine Dj s5 nx (d+1) cy _ mW (by rw[WA];exact hn) (by rw[WA];exact Dq) (by omega) (by omega) fun dQ nI ju vJ=>?_;simp only[aG,S.adV,aA,cp,aa];rw[wrap_i64 (n:=(i:Int)+1) (by omega) (by omega),show(i:Int)+1=((i+1:Nat):Int) by simp];exact ih (i+1) _ dQ bC (iK.trans nI) ju (vJ.trans WA) A5
          unfold S.OR;simp only[ab,Nat.zero_add,Vm oQ,aa,kG,aD,aG];refine aN (fun z4=>?_) (fun z4=>?_)
          · have z4:e.kind≥4:=of_decide_eq_true z4;rw[if_pos z4]at zE;simp only[auV oQ,aa,cp];rw[show IntKind.wrap .i64 (d+1)=d+1 from Gy];refine aae aw hT pY hv gL hep nD (by rw[sC];exact hn) (by rw[sC];exact Dq) (by omega) (by omega) fun cy iK mW Wz=>?_;exact k2 _ cy (lU.trans iK) mW (iK.2 _ _ (by omega) oQ) (Wz.trans sC) zE
          · have z4:¬e.kind≥4:=fun z=>z4 (decide_eq_true z);rw[if_neg z4]at zE;exact k2 s4 bZ lU nD oQ sC zE
         unfold S.adW;simp only[ab,Nat.zero_add,Vm q9,aa,cn,aD,aG];refine aN (fun z4=>?_) (fun z4=>?_)
         · have z4:e.kind=2:=by simpa using z4
           simp only[z4,if_true]at he;simp only[auT q9,aa];refine IF aw hT hn (by omega) e.name _ _ ?_;refine oU aw hT h9 _ _ fun bZ lU nD=>?_;rw[show(s.locals.any fun y=>e.name==y)=s3.has e.name by rw[←wv];rfl]at nD;refine k3 _ bZ (GI.trans lU) nD (lU.2 _ _ (by omega) q9) (by rw[iH,wv]) ?_;rw[z4];exact he
         · have z4:¬e.kind=2:=by simpa using z4
           simp only[z4,if_false]at he;exact k3 s3 H9 GI h9 q9 wv he
       · have z2:s2.aV≠0:=by simpa using z2
         have wk:f_ s' (d+1) e=s2:=by rw[hH,oV z2]
         unfold S.Ip;simp only[aA,aD];rw[if_pos trivial];exact bad H8 Lp (by rw[wk];exact z2) (by rw[wk];exact h8)
     · have z1:s1.aV≠0:=by simpa using z1
       have wk:f_ s' (d+1) e=s1:=by rw[hH,oV z1,oV z1]
       unfold S.OS;simp only[aA,cj,aG];rw[if_neg (by decide)];unfold S.Ip;simp only[aA,aD];rw[if_pos trivial];exact bad H7 Ln (by rw[wk];exact z1) (by rw[wk];exact h7)
   · have hz:s'.aV≠0:=by simpa using q
     rw[Hw vars hz]at he;exact hQ H5 k5 (by rw[←he];exact h5) (by rw[←he];exact wx)
 exact main l 0 s H rfl (cM.refl id H) h rfl rfl
theorem abf(pY:vars.length≤maxLen)(hv:∀v∈vars,v.ok):∀e:aF,e.ok→afT C id vars e:=by refine aF.ind fun e zL wH he=>?_;obtain⟨⟨sB,gW⟩,gL⟩:=aF.eS he;have jM:=aT.eS gL;exact⟨NW aw hT pY hv sB fun k hk=>⟨gW k hk,zL k hk (gW k hk)⟩,fun p hp=>NW aw hT pY hv (jM.2 p hp).1 fun i hi=>⟨(jM.2 p hp).2 i hi,wH p hp i hi ((jM.2 p hp).2 i hi)⟩⟩
end
end Rb

namespace Rb
open Go
def TU:List UInt8:=[118,97,114,32,116,104,114,101,97,100,32,115,116,114,117,99,116,32,117,110,105,111,110,32,112,97,99,107,101,100,32,117,56,32,117,49,54,32,117,51,50,32,117,54,52,32,97,56,32,97,49,54,32,97,51,50,32,97,54,52,32,97,49,50,56,32,108,101,116,32,115,101,116,32,119,114,105,116,101,32,115,116,111,114,101,32,108,111,97,100,50,32,115,116,111,114,101,50,32,102,101,110,99,101,32,105,102,32,101,108,115,101,32,119,104,105,108,101,32,112,114,105,110,116,32,114,101,97,100,32,108,111,97,100,32,97,100,100,32,115,119,97,112,32,99,97,115,32,114,108,120,32,97,99,113,32,114,101,108,32,115,99]
def pB:List (List UInt8):=[[118,97,114],[116,104,114,101,97,100],[115,116,114,117,99,116],[117,110,105,111,110],[112,97,99,107,101,100],[117,56],[117,49,54],[117,51,50],[117,54,52],[97,56],[97,49,54],[97,51,50],[97,54,52],[97,49,50,56],[108,101,116],[115,101,116],[119,114,105,116,101],[115,116,111,114,101],[108,111,97,100,50],[115,116,111,114,101,50],[102,101,110,99,101],[105,102],[101,108,115,101],[119,104,105,108,101],[112,114,105,110,116],[114,101,97,100],[108,111,97,100],[97,100,100],[115,119,97,112],[99,97,115],[114,108,120],[97,99,113],[114,101,108],[115,99]]
def bP(s:List UInt8):Bool:=pB.any fun x=>s==x
section
variable{C:Ctx}(aw:dz C)(hT:Cl (au C) S.cH)
include aw hT
theorem akK(hF:∀(H:AH)(Q:ae),Q (.aq .dead 34 (pB.map .str)) H→au C K.f67 [.str TU] H Q)(s:List UInt8):cG (au C) K.f42 [.str s] (.bool (bP s)):=by
 intro H Q hQ;refine S.aq1 hT ?_;unfold S.f42;refine hF _ _ ?_;refine Sa hT (xs:=pB) rfl (fun i x hx=>?_) (by decide) hQ;have aO:=(List.getElem?_eq_some_iff.1 hx).1;refine⟨.av ((pB.map AV.str).drop (i*1)),?_,?_⟩
 · simp only[bj];have hl:pB.length=34:=rfl;rw[if_pos ⟨by omega,by omega⟩];simp
 · show cC _ 0 1 false=_;unfold cC;rw[if_pos (by rw[List.length_drop,List.length_map];omega)];simp[hx]
end
end Rb

namespace Rb
open Go
section
variable{C:Ctx}(aw:dz C)(hT:Cl (au C) S.cH)
include aw hT
theorem Zr(s:List UInt8):cG (au C) K.f14 [.str s] (.bool (bP s)):=by
 intro H Q hQ;refine S.aqE hT ?_;unfold S.f14;refine S.aqQ hT ?_;unfold S.f31;refine⟨.aq .full 34 (pB.map .str),H,by rfl,?_⟩;have main:∀(r:List (List UInt8)) (k:Nat),pB.drop k=r→r.any (fun x=>s==x)=bP s→aB (S.N4 (au C) (.str s) (.aq .full 34 (pB.map .str)) Q) ([.int .i64 k],H):=by
  intro r;induction r with
  | nil=>intro k hd hb;have hle:=fe hd;have hl:pB.length=34:=rfl;refine aB.step ?_;simp only[S.N4,aA];rw[show br false (.aq .full 34 (pB.map .str))=some (.int .i64 34)from rfl];simp only[aa,bF,aD];rw[if_neg (by simp only[decide_eq_true_eq];omega)];rw[←hb]at hQ;exact hQ
  | cons x r ih=>
   intro k hd hb;obtain⟨aO,hx,bC⟩:=eX hd;have hl:pB.length=34:=rfl;refine aB.step ?_;simp only[S.N4,aA];rw[show br false (.aq .full 34 (pB.map .str))=some (.int .i64 34)from rfl];simp only[aa,bF,aD];rw[if_pos (by simp only[decide_eq_true_eq];omega)];have ha:bj none 1 (.aq .full 34 (pB.map .str)) (.int .i64 k)=some (.av ((pB.map AV.str).drop (k*1))):=by simp only[bj];rw[if_pos ⟨by omega,by omega⟩];simp
   have hv:J H 1 false (.av ((pB.map AV.str).drop (k*1)))=some (.str x):=by show cC _ 0 1 false=_;unfold cC;rw[if_pos (by rw[List.length_drop,List.length_map];omega)];simp[hx]
   simp only[ha,hv,aa,lq,aD];rw[List.any_cons]at hb;refine aN (fun q=>?_) (fun q=>?_)
   · have q:x=s:=by simpa using q
     rw[q]at hb;have:bP s=true:=by rw[←hb];simp
     rw[this]at hQ;exact hQ
   · have q:¬x=s:=by simpa using q
     have bU:(s==x)=false:=by simpa using fun e=>q e.symm
     rw[bU,Bool.false_or]at hb;simp only[cp,aa];rw[wrap_i64 (by omega) (by omega),show(k:Int)+1=((k+1:Nat):Int) by simp];exact ih (k+1) bC hb
 exact main pB 0 rfl rfl
end
end Rb

namespace Rb
open Go
theorem vN(a b:AV)(l:List AV):sl (a::b::l) 1=b:=rfl
theorem Ck{H:AH}{id:Nat}{e:aC}(h:At H id (.row e.cells)):J H 1 false (.ptr id 2)=some (.str e.name):=by rw[h.load,aC.bf,aT.bf];rfl
theorem agD{H:AH}{id:Nat}{e:aC}(h:At H id (.row e.cells)):J H 1 false (.ptr id 3)=some (.str e.cW):=by rw[h.load,aC.bf,aT.bf];rfl
theorem avR{H:AH}{id:Nat}{e:aC}(h:At H id (.row e.cells)):J H 1 false (.ptr id 4)=some (.int .i64 e.order):=by rw[h.load,aC.bf,aT.bf];rfl
def rV(H:AH)(id:Nat)(vars:List aK)(s:aS):Prop:=∃s',At H id (.row (fo vars s'))∧s'.aV=s.aV∧s'.nN=s.nN∧(s.aV=0→s'.lets=s.lets)
theorem rV.of{H:AH}{id:Nat}{vars:List aK}{s:aS}(h:At H id (.row (fo vars s))):rV H id vars s:=⟨s,h,rfl,rfl,fun _=>rfl⟩
theorem rV.aY{H:AH}{id:Nat}{vars:List aK}{s t:aS}(h:rV H id vars s)(h1:t.aV=s.aV)(h2:t.nN=s.nN)(h3:s.aV=0→t.lets=s.lets):rV H id vars t:=by obtain⟨s',a,b,c,d⟩:=h;exact⟨s',a,b.trans h1.symm,c.trans h2.symm,fun e=>(d (h1▸e)).trans (h3 (h1▸e)).symm⟩
def LI(s:aS):Prop:=s.aV=0→(s.locals.length:Int)≤s.lets∧s.lets≤40
theorem ak7(vars:List aK)(kw:List UInt8→Bool){s:aS}(h:s.aV≠0)(d:Int)(x:aC):gz vars kw s d x=s:=by
 unfold gz;split
 ·rw[oV h,oV h,oV h]
 · split
   ·rw[oV h]
   · split
     ·rw[aqf vars h]
     ·rfl
theorem aob(s:aS)(x:aC)(h:s.aV≠0):(lA s x).aV=s.aV∧(lA s x).nN=s.nN:=by
 unfold lA;split
 ·exact⟨rfl,rfl⟩
 · split
   ·rw[oV h,oV h,oV h];exact⟨rfl,rfl⟩
   ·exact⟨rfl,rfl⟩
theorem auo(vars:List aK)(kw:List UInt8→Bool){s:aS}{d:Int}{x:aC}(h:(ib s d x).aV≠0):(stM vars kw s d x).aV=(ib s d x).aV∧(stM vars kw s d x).nN=(ib s d x).nN:=by
 have hb:(fm vars kw s d x).aV=(ib s d x).aV∧(fm vars kw s d x).nN=(ib s d x).nN:=by unfold fm;rw[ak7 vars kw h,Hw vars h];exact aob _ x h
 have h2:(fm vars kw s d x).aV≠0:=by rw[hb.1];exact h
 rw[stM_eq];unfold gQ;rw[vj vars kw h2,vj vars kw (s:=(((fm vars kw s d x).back _).at x.line)) h2];exact hb
def Jl(C:Ctx)(id:Nat)(vars:List aK)(kw:List UInt8→Bool)(l:List aC):Prop:=∀(s:aS)(nx:AV)(d:Int)(H:AH)(Q:ae),rV H id vars s→AB nx s.locals→s.locals.length≤100→LI s→0≤d→d≤65→(∀H',cM id H H'→rV H' id vars (gQ vars kw s d l)→LI (gQ vars kw s d l)→Q (.aM []) H')→au C K.f17 [.ptr id 0,aQ aC.cells l,nx,.int .i64 d] H Q
theorem BN{n0:Nat}{H:AH}{x:AV}{l:List (List UInt8)}(h:cU n0 H 1 x l.length (l.map AV.str)):AB x l:=by obtain⟨tk,rfl,_⟩:=h;exact⟨tk,rfl⟩
theorem cU.qi{n0:Nat}{H H':AH}{sz len id:Nat}{x:AV}{cells cs:List AV}(h:cU n0 H sz x len cells)(hr:At H id (.row cs))(k:cM id H H'):cU n0 H' sz x len cells:=h.frame fun t a b ht=>k.2 t _ (fun e=>by subst e;exact absurd (ht.2.symm.trans hr.2) (by intro q;cases q)) ht
theorem nL(s:aS)(ok:Bool)(e:Int):(s.cZ ok e).lets=s.lets:=by unfold aS.cZ;split<;>rfl
theorem Hm(s:aS)(d:Int)(e:aF):(f_ s d e).lets=s.lets:=by unfold f_;rw[nL,nL,nL]
theorem alY(s:aS)(d:Int)(e:aC):(ib s d e).lets=s.lets:=by unfold ib;rw[nL,nL,nL]
section
variable(vars:List aK)
theorem alf(s:aS)(k:Int)(x:aT):(qS vars s k x).lets=s.lets:=by unfold qS;dsimp only;rw[nL,nL]
mutual
theorem aa2:∀(e:aF)(s:aS)(d:Int),(qD vars s d e).lets=s.lets
 | .mk kind n name op order place kids,s,d=>by
  rw[qD];split
  ·exact Hm _ _ _
  · rw [SL kids];split
    · rw[abn place];split
      ·rw[nL,Hm]
      ·exact Hm _ _ _
    · split
      ·rw[nL,Hm]
      ·exact Hm _ _ _
theorem SL:∀(l:List aF)(s:aS)(d:Int),(eH vars s d l).lets=s.lets
 |[],s,d=>by rw[eH]
 | e::r,s,d=>by
  rw[eH,SL r];split
  ·rfl
  ·exact aa2 e s _
theorem abn:∀(x:aT)(s:aS)(k d:Int),(mI vars s k d x).lets=s.lets
 | .mk var parts,s,k,d=>by
  rw[mI];split
  ·rfl
  ·rw[aaP parts,alf]
theorem aaP:∀(l:List a_)(s:aS)(d:Int),(iZ vars s d l).lets=s.lets
 |[],s,d=>by rw[iZ]
 |p::r,s,d=>by rw[iZ,aaP r,an9 p]
theorem an9:∀(p:a_)(s:aS)(d:Int),(uf vars s d p).lets=s.lets
 | .mk field index,s,d=>by rw[uf,aaF index]
theorem aaF:∀(l:List aF)(s:aS)(d:Int),(kK vars s d l).lets=s.lets
 |[],s,d=>by rw[kK]
 |e::r,s,d=>by rw[kK,aaF r,aa2 e]
end
end
section
variable{C:Ctx}(aw:dz C)(hT:Cl (au C) S.cH){id:Nat}{vars:List aK}
include aw hT
theorem Uk(pY : vars.length≤maxLen)(hv:∀v∈vars,v.ok){l:List aC}(hl:l.length≤9223372036854775807)(jx:∀x∈l,x.ok)(hB:∀x∈l,Jl C id vars bP x.aZ∧Jl C id vars bP x.bz):Jl C id vars bP l:=by
 intro s nx d H Q h hn Dq hLI d0 d1 hQ;refine S.aqH hT ?_;unfold S.f17;have ax7:∀K:ae,(∀own H1,cU H.n H1 1 own s.locals.length (s.locals.map AV.str)→Left H.n H H1→K own H1)→aJ (eF H false 1 16 (.aq .full 0 []) nx) K:=by
  intro K hK;obtain⟨tk,rfl⟩:=hn;by_cases hz:s.locals=[]
  · rw[hz]at hK ⊢;exact⟨_,_,rfl,hK _ _ ⟨.full,rfl,rfl,.inr (.inl rfl)⟩ ⟨Nat.le_refl _,fun i o hi _=>hi⟩⟩
  · have Cz:s.locals.length≠0:=fun e=>hz (List.length_eq_zero_iff.1 e);have h0:cU H.n H 1 (.aq .full 0 []) 0 []:=⟨.full,rfl,rfl,.inr (.inl rfl)⟩
    refine cU.app (len:=0) (m:=s.locals.length) (news:=s.locals.map AV.str) h0 (Nat.le_refl _) (by show(if _ then _ else _)=_;rw[if_pos (by simp)]) (by simp) (by simp[AV.scalar]) Cz (by omega) (by omega) fun x' H' hx hL=>?_;rw[Nat.zero_add,List.nil_append]at hx;exact hK x' H' hx hL
 rw[show fb H false 1 0 [.str []] []=some (.aq .full 0 [],H)from rfl];simp only[bw];refine ax7 _ fun own H1 ho KI=>?_;have gC:id<H.n:=by obtain⟨s',a,_⟩:=h;exact a.1
 have k1:cM id H H1:=(cM.refl id H).left KI;have h1:rV H1 id vars s:=by obtain⟨s',a,b⟩:=h;exact⟨s',KI.2 _ _ a (.inl gC),b⟩
 have i10:∀(s':aS)(H':AH),At H' id (.row (fo vars s'))→J H' 1 false (.ptr id (3+1))=some (.int .i64 s'.aV):=fun s' H' h'=>by rw[h'.load];rfl
 have l1:∀(s':aS)(H':AH),At H' id (.row (fo vars s'))→J H' 1 false (.ptr id 1)=some (.int .i64 s'.lets):=fun s' H' h'=>by rw[h'.load];rfl
 have main : ∀ (r:List aC) (i:Nat) (s':aS) (own:AV) (H5:AH),l.drop i=r→cM id H H5→rV H5 id vars s'→(s'.aV=0→cU H.n H5 1 own s'.locals.length (s'.locals.map AV.str))→LI s'→iJ vars bP s' s.locals.length d r=iJ vars bP s s.locals.length d l→aB (S.yA (au C) (.ptr id 0) (aQ aC.cells l) (.int .i64 d) Q) ([own,.int .i64 i],H5):=by
  intro r;induction r with
  | nil=>
   intro i s' own H5 hd k5 h5 ho5 Wr he;have hle:=fe hd;rw[iJ]at he;refine aB.step ?_;simp only[S.yA,aA,vN,cu,aa,bF,ck,aG];rw[if_neg (by simp only[decide_eq_true_eq];omega)];unfold S.Nh;simp only[aA,aD];rw[if_neg (by decide)];have A3:gQ vars bP s d l=s'.back s.locals.length:=he.symm;refine hQ H5 k5 ?_ ?_
   ·rw[A3];exact h5.aY rfl rfl (fun _=>rfl)
   · rw[A3];intro e;have:=Wr e;show((s'.locals.take s.locals.length).length:Int)≤s'.lets∧s'.lets≤40;rw[List.length_take];omega
  | cons x r ih =>
   intro i s' own H5 hd k5 h5 ho5 Wr he;obtain⟨aO,hx,bC⟩:=eX hd;have GA:=List.mem_of_getElem? hx;obtain⟨hBt,hBe⟩:=hB x GA;obtain⟨gL,⟨sB,gW⟩,_,_⟩:=aC.eS (jx x GA);have jM:=aT.eS gL;obtain⟨s'',QZ,e1,e2,e3⟩:=h5;refine aB.step ?_;simp only[S.yA,aA,vN,cu,aa,bF,ck,aG];rw[if_pos (by simp only[decide_eq_true_eq];omega)];simp only[bR,ab,Nat.zero_add,aa,i10 s'' H5 QZ,cn];unfold S.Nh;simp only[aA,aD,aG];refine aN (fun q=>?_) (fun q=>?_)
   · have hz : s'.aV = 0 := by rw [← e1]; simpa using q
     have ho:=ho5 hz;obtain⟨hl1,Dp⟩:=Wr hz;rw[iJ,if_neg (by simpa using hz)]at he;unfold S.ab1;simp only[aA,vN];rw[d_ aO];simp only[aa];rw[gO aC.len (by decide) _ hx];simp only[aa,be,if_true,bw];rw[fC _ _ _ 10 x.len x.scalar rfl];have q6:=At.new H5 (.row x.cells);have vM:=QZ.push (.row x.cells);have k6:=k5.trans (cM.push id H5 (.row x.cells));have o6:cU H.n (H5.push (.row x.cells)) 1 own s'.locals.length (s'.locals.map AV.str):=ho.frame fun t a b ht=>ht.push _;have n5:=QZ.1;simp only[aa];have i6:(H5.push (.row x.cells)).n=H5.n+1:=rfl;generalize H5.push (.row x.cells)=H6 at *;have bU:id≠H5.n:=by omega
     simp only[ab,Nat.zero_add,avQ q6,aa,bR];rw [show aH H6 1 (.ptr id 2) (.int .i64 x.line)=some (H6.set id (.row (fo vars (s'.at x.line)))) by rw[vM.store,if_pos ⟨rfl,rfl,rfl,(by show 2+1≤5;decide)⟩];unfold fo aS.at;rw[←e1,←e2,←e3 hz];rfl]
     have Q0:=vM.set (.row (fo vars (s'.at x.line)));have q7:At (H6.set id (.row (fo vars (s'.at x.line)))) H5.n (.row x.cells):=q6.dq (fun e=>bU e.symm) _;have k7:=k6.trans (cM.set id H6 (.row (fo vars (s'.at x.line))));have o7:cU H.n (H6.set id (.row (fo vars (s'.at x.line)))) 1 own s'.locals.length (s'.locals.map AV.str):=o6.qi vM (cM.set id H6 _);simp only[aa,mL];generalize H6.set id (.row (fo vars (s'.at x.line)))=H7 at *;have ym:(s'.at x.line).locals=s'.locals:=rfl;have QR:(s'.at x.line).lets=s'.lets:=rfl;generalize s'.at x.line=s1 at *;have Gy:aR (d+1)=d+1:=wrap_i64 (by omega) (by omega);have hH:ib s1 d x=((s1.cZ (decide (d≤64)) 5).cZ (ly x) 4).cZ (kP x.kind x.order) 11:=rfl;have bad:∀(H8:AH),cM id H H8→(ib s1 d x).aV≠0→At H8 id (.row (fo vars (ib s1 d x)))→Q (.aM []) H8:=by
      intro H8 k8 hb h8;obtain⟨b1,b2⟩:=auo vars bP hb;rw[vj vars bP (by rw[b1];exact hb)]at he;have A3:gQ vars bP s d l=(stM vars bP s1 d x).back s.locals.length:=he.symm;refine hQ H8 k8 ?_ ?_
      ·rw[A3];exact(rV.of h8).aY b1 b2 (fun e=>absurd e hb)
      · rw[A3];intro e;exact absurd (b1▸e:(ib s1 d x).aV=0) hb
     refine oU aw hT Q0 _ _ fun H8 k8 h8=>?_;simp only[gk,aa,cj,aG];generalize K_:s1.cZ (decide (d≤64)) 5=s2 at *;have Lp:=k7.trans k8;have q8:=k8.2 _ _ (fun e=>bU e.symm) q7;have o8:=o7.qi Q0 k8;refine gG (fun z1=>?_) (fun z1=>?_)
     · have z1 : s2.aV=0:=by simpa using z1
       have awT:d≤64:=by have:=(jj (by rw[K_];exact z1) (by decide)).2;simpa using this
       rw[aul q8];simp only[aa];refine akJ aw hT x _ _ ?_;refine oU aw hT h8 _ _ fun H9 k9 h9=>?_;simp only[gk,aa];generalize La:s2.cZ (ly x) 4=s3 at *;have GI:=Lp.trans k9;have q9:=k9.2 _ _ (fun e=>bU e.symm) q8;have o9:=o8.qi h8 k9;unfold S.Ob;simp only[aA,cj,aG];refine gG (fun z2=>?_) (fun z2=>?_)
       · have z2 : s3.aV=0:=by simpa using z2
         simp only[ab,Nat.zero_add,Fj q9,avR q9,aa];refine ZC hT _ _ _ _ ?_;refine oU aw hT h9 _ _ fun bZ lU nD=>?_;simp only[gk,aa];rw[←hH]at nD ⊢;have JR:=GI.trans lU;have oQ:=lU.2 _ _ (fun e=>bU e.symm) q9;have GO:=o9.qi h9 lU;unfold S.Ie;simp only[aA,aD,aG];refine aN (fun z3=>?_) (fun z3=>?_)
         ·exact bad bZ JR (by simpa using z3) nD
         have z3:(ib s1 d x).aV=0:=by simpa using z3
         have cx:=Hk s1 d x;have aw5:=alY s1 d x;have yL:fm vars bP s1 d x=lA (eH vars (gz vars bP (ib s1 d x) d x) d x.exprs) x:=rfl;generalize ib s1 d x=s4 at *;have sC:s4.locals=s'.locals:=by rw[cx,ym]
         have JH:s4.lets=s'.lets:=by rw[aw5,QR]
         have yq:∀(uN:AV)(fH:AH),cM id H fH→At fH id (.row (fo vars (fm vars bP s1 d x)))→At fH H5.n (.row x.cells)→cU H.n fH 1 uN (fm vars bP s1 d x).locals.length ((fm vars bP s1 d x).locals.map AV.str)→LI (fm vars bP s1 d x)→(fm vars bP s1 d x).locals.length≤100 →
           S.N8 (au C) (.ptr id 0) (.int .i64 d) (.ptr H5.n 0) ([own,.int .i64 i],H5) (aB (S.yA (au C) (.ptr id 0) (aQ aC.cells l) (.int .i64 d) Q)) [uN] Q [] fH:=by
          intro uN fH YN h20 q20 o20 avc Wt;have aX:=stM_eq vars bP s1 d x;generalize fm vars bP s1 d x=s6 at *;rw[Gy]at aX;unfold S.N8;simp only[aA,vN,ab,Nat.zero_add,avU q20,aa,cp];rw[show IntKind.wrap .i64 (d+1)=d+1 from Gy];refine hBt s6 uN (d+1) fH _ (rV.of h20) (BN o20) Wt avc (by omega) (by omega) fun fc Ll XX avd=>?_;have q21:=Ll.2 _ _ (fun e=>bU e.symm) q20;have YZ:=o20.qi h20 Ll;have ahy:=YN.trans Ll;simp only[avV q21,aa];have fin:∀fM,cM id H fM→rV fM id vars (stM vars bP s1 d x)→((stM vars bP s1 d x).aV=0→cU H.n fM 1 uN (stM vars bP s1 d x).locals.length ((stM vars bP s1 d x).locals.map AV.str))→LI (stM vars bP s1 d x)→ak (S.Uy (au C) ([own,.int .i64 i],H5) (aB (S.yA (au C) (.ptr id 0) (aQ aC.cells l) (.int .i64 d) Q)) Q) [uN] fM:=by intro fM GH Dd o22 Ql;simp only[aG,S.Uy,aA,vN,cp,aa];rw[wrap_i64 (n:=(i:Int)+1) (by omega) (by omega),show(i:Int)+1=((i+1:Nat):Int) by simp];exact ih (i+1) _ uN fM bC GH Dd o22 Ql he
          by_cases h7:(gQ vars bP s6 (d+1) x.aZ).aV=0
          · have w7:=HZ vars bP x.aZ s6 s6.locals.length (d+1) (Nat.le_refl _) h7;have Zb:(gQ vars bP s6 (d+1) x.aZ).locals=s6.locals:=by
             have:=w7.2.1;rw[List.take_length]at this;exact this
            have Y4:∃cs,At fc id (.row cs):=by obtain⟨s9,a,_⟩:=XX;exact⟨_,a⟩
            obtain⟨aCK,Y4⟩:=Y4;refine hBe ((gQ vars bP s6 (d+1) x.aZ).at x.line) uN (d+1) fc _ (XX.aY rfl rfl (fun _=>rfl)) ?_ ?_ ?_ (by omega) (by omega) fun fM GH Dd Ql=>?_
            · show AB uN (gQ vars bP s6 (d+1) x.aZ).locals;rw[Zb];exact BN YZ
            · show(gQ vars bP s6 (d+1) x.aZ).locals.length≤100;rw[Zb];exact Wt
            ·exact avd
            · rw [←aX]at Dd Ql;refine fin fM (ahy.trans GH) Dd (fun e=>?_) Ql;rw[aX]at e ⊢;have w8:=(HZ vars bP x.bz _ _ (d+1) (Nat.le_refl _) e).2.1;have w8':(gQ vars bP ((gQ vars bP s6 (d+1) x.aZ).at x.line) (d+1) x.bz).locals=s6.locals:=by
               rw[List.take_length]at w8;exact w8.trans Zb
              rw[w8'];exact YZ.qi Y4 GH
          · have KM:({(gQ vars bP s6 (d+1) x.aZ)with locals:=s6.locals}:aS).aV≠0:=h7;refine hBe {(gQ vars bP s6 (d+1) x.aZ)with locals:=s6.locals} uN (d+1) fc _ (XX.aY rfl rfl (fun _=>rfl)) (BN YZ) Wt (fun e=>absurd e h7) (by omega) (by omega) fun fM GH Dd _=>?_;have e4:stM vars bP s1 d x=((gQ vars bP s6 (d+1) x.aZ).at x.line).back ((gQ vars bP s6 (d+1) x.aZ).at x.line).locals.length:=by
             rw[aX];exact vj vars bP (s:=(gQ vars bP s6 (d+1) x.aZ).at x.line) h7 _ _ _
            have e5:gQ vars bP {(gQ vars bP s6 (d+1) x.aZ)with locals:=s6.locals} (d+1) x.bz=({(gQ vars bP s6 (d+1) x.aZ)with locals:=s6.locals}:aS).back s6.locals.length:=vj vars bP KM _ _ _;rw[e5]at Dd;refine fin fM (ahy.trans GH) ?_ (fun e=>?_) (fun e=>?_)
            ·rw[e4];exact Dd.aY rfl rfl (fun _=>rfl)
            ·rw[e4]at e;exact absurd e h7
            ·rw[e4]at e;exact absurd e h7
         have DD:∀(cy:AH),cM id H cy→At cy id (.row (fo vars (gz vars bP s4 d x)))→At cy H5.n (.row x.cells)→cU H.n cy 1 own s'.locals.length (s'.locals.map AV.str)→(gz vars bP s4 d x).locals=s'.locals→(gz vars bP s4 d x).lets=s'.lets→(x.kind=1→(gz vars bP s4 d x).aV=0→s'.lets<40) →
           S.Ev (au C) (.ptr id 0) (.int .i64 d) (.ptr H5.n 0) ([own,.int .i64 i],H5) (aB (S.yA (au C) (.ptr id 0) (aQ aC.cells l) (.int .i64 d) Q)) Q [] cy:=by
          intro cy iK mW ug Bj pR Yh awX;generalize gz vars bP s4 d x=s5 at *;unfold S.Ev;simp only[aA,vN,ab,Nat.zero_add,avT ug,aa];refine NW aw hT pY hv sB (fun e he=>⟨gW e he,abf aw hT pY hv e (gW e he)⟩) s5 own d cy _ mW (by rw[pR];exact BN Bj) (by rw[pR];omega) d0 (by omega) fun dQ nI ju vJ=>?_;have wK:=nI.2 _ _ (fun e=>bU e.symm) ug;have GP:=Bj.qi mW nI;have QT:=iK.trans nI;have Qn:=SL vars x.exprs s5 d;have avl:(eH vars s5 d x.exprs).aV=0→s5.aV=0:=fun e=>(MM vars x.exprs s5 d e).1;rw[pR]at vJ;rw[Yh]at Qn;generalize eH vars s5 d x.exprs=s6 at *;simp only[Fj wK,aa,cn,aD,aG];refine aN (fun c1=>?_) (fun c1=>?_)
          · have c1:x.kind=1:=by simpa using c1
            simp only[Ck wK,aa];rw[show fb dQ false 1 1 [.str []] [(0,1,.str x.name)]=some (.aq .full 1 [.str x.name],dQ)from rfl];simp only[bw];refine cU.app (news:=[.str x.name]) (m:=1) GP (Nat.le_trans (Nat.le_refl _) (by have:=QT.1;omega)) rfl rfl rfl (by decide) (by omega) (by omega) fun uN de Lz xR=>?_;have x_:At de id (.row (fo vars s6)):=xR.2 _ _ ju (.inl gC);have GW:At de H5.n (.row x.cells):=xR.2 _ _ wK (.inr fun a b e=>by cases e);have ub:=QT.left xR;simp only[bR,ab,Nat.zero_add,aa,l1 s6 de x_,cp];have hb:fm vars bP s1 d x=s6.xk x.name:=by rw[yL];unfold lA;rw[if_pos c1]
            rw [show aH de 1 (.ptr id 1) (.int .i64 (IntKind.wrap .i64 (s6.lets+1)))=some (de.set id (.row (fo vars (s6.xk x.name)))) by rw[x_.store,if_pos ⟨rfl,rfl,rfl,(by show 1+1≤5;decide)⟩];rfl]
            have A1:=x_.set (.row (fo vars (s6.xk x.name)));have GX:At (de.set id (.row (fo vars (s6.xk x.name)))) H5.n (.row x.cells):=GW.dq (fun e=>bU e.symm) _;have vb:=ub.trans (cM.set id de (.row (fo vars (s6.xk x.name))));have YY:=Lz.qi x_ (cM.set id de (.row (fo vars (s6.xk x.name))));simp only[aa];generalize de.set id (.row (fo vars (s6.xk x.name)))=eN at *;unfold S.N9;simp only[aA,vN,ab,Nat.zero_add,Fj GX,aa,cn,aD,aG];rw[c1,if_neg (by decide)];rw[←hb]at A1;have hlen:(fm vars bP s1 d x).locals=s'.locals++[x.name]:=by rw[hb];show s6.locals++[x.name]=_;rw[vJ]
            refine yq uN eN vb A1 GX ?_ ?_ ?_
            · rw[hlen,List.length_append,List.map_append];exact YY
            · intro e;rw[hlen,hb]at *;have e6:s6.aV=0:=e;have h40:=awX c1 (avl e6);show((s'.locals++[x.name]).length:Int)≤aR (s6.lets+1)∧aR (s6.lets+1)≤40;rw[Qn,show aR (s'.lets+1)=s'.lets+1 from wrap_i64 (by omega) (by omega),List.length_append,List.length_singleton];push_cast;omega
            ·rw[hlen,List.length_append,List.length_singleton];omega
          · have c1:¬x.kind=1:=by simpa using c1
            unfold S.N9;simp only[aA,vN,ab,Nat.zero_add,Fj wK,aa,cn,aD,aG];refine aN (fun c5=>?_) (fun c5=>?_)
            · have c5:x.kind=5:=by simpa using c5
              have ahi:AB own s6.locals:=by rw[vJ];exact BN GP
              have hb:fm vars bP s1 d x=((s6.cZ (s6.has x.name) 6).cZ (s6.has x.cW) 6).cZ (!(x.name==x.cW)) 7:=by rw[yL];unfold lA;rw[if_neg c1,if_pos c5]
              have Rp:(fm vars bP s1 d x).locals=s'.locals:=by rw[hb,iH,iH,iH,vJ]
              have uJ:(fm vars bP s1 d x).lets=s'.lets:=by rw[hb,nL,nL,nL,Qn]
              simp only[Ck wK,aa];refine IF aw hT ahi (by rw[vJ];omega) x.name _ _ ?_;refine oU aw hT ju _ _ fun de ub x_=>?_;have GW:=ub.2 _ _ (fun e=>bU e.symm) wK;have Lz:=GP.qi ju ub;simp only[agD GW,aa];refine IF aw hT ahi (by rw[vJ];omega) x.cW _ _ ?_;refine oU aw hT x_ _ _ fun eN vb A1=>?_;have GX:=vb.2 _ _ (fun e=>bU e.symm) GW;have YY:=Lz.qi x_ vb;simp only[Ck GX,agD GX,aa,yw];refine oU aw hT A1 _ _ fun eD YM h15=>?_;have q15:=YM.2 _ _ (fun e=>bU e.symm) GX;have o15:=YY.qi A1 YM;have awF:At eD id (.row (fo vars (fm vars bP s1 d x))):=by rw[hb];exact h15
              refine yq own eD (((QT.trans ub).trans vb).trans YM) awF q15 (by rw[Rp];exact o15) ?_ (by rw[Rp];omega);intro e;rw[Rp,uJ];exact⟨hl1,Dp⟩
            · have c5:¬x.kind=5:=by simpa using c5
              have hb:fm vars bP s1 d x=s6:=by rw[yL];unfold lA;rw[if_neg c1,if_neg c5]
              refine yq own dQ QT (by rw[hb];exact ju) wK (by rw[hb,vJ];exact GP) ?_ (by rw[hb,vJ];omega);intro e;rw[hb,vJ,Qn];exact⟨hl1,Dp⟩
         have ahh:AB own s4.locals:=by rw[sC];exact BN GO
         unfold S.adN;simp only[aA,vN,ab,Nat.zero_add,Fj oQ,aa,cn,aD,aG];refine aN (fun c1=>?_) (fun c1=>?_)
         · have c1:x.kind=1:=by simpa using c1
           have hf:gz vars bP s4 d x=((s4.cZ (gH x.name&&!bP x.name) 6).cZ (!s4.has x.name) 7).cZ (decide (s4.lets<40)) 12:=by unfold gz;rw[if_pos c1]
           have pR:(gz vars bP s4 d x).locals=s'.locals:=by rw[hf,iH,iH,iH,sC]
           have Yh:(gz vars bP s4 d x).lets=s'.lets:=by rw[hf,nL,nL,nL,JH]
           have uc:∀cy,cM id bZ cy→At cy id (.row (fo vars (s4.cZ (gH x.name&&!bP x.name) 6)))→S.N_ (au C) (.ptr id 0) (.int .i64 d) (.ptr H5.n 0) ([own,.int .i64 i],H5) (aB (S.yA (au C) (.ptr id 0) (aQ aC.cells l) (.int .i64 d) Q)) Q [] cy:=by
            intro cy iK mW;have ug:=iK.2 _ _ (fun e=>bU e.symm) oQ;have Bj:=GO.qi nD iK;unfold S.N_;simp only[aA,vN,ab,Nat.zero_add,Ck ug,aa];refine IF aw hT ahh (by rw[sC];omega) x.name _ _ ?_;simp only[gk,aa];refine oU aw hT mW _ _ fun dQ nI ju=>?_;have wK:=nI.2 _ _ (fun e=>bU e.symm) ug;have GP:=Bj.qi mW nI;simp only[bR,ab,Nat.zero_add,l1 _ dQ ju,aa,bF];refine oU aw hT ju _ _ fun de ub x_=>?_;have GW:=ub.2 _ _ (fun e=>bU e.symm) wK;have Lz:=GP.qi ju ub;have awE:At de id (.row (fo vars (gz vars bP s4 d x))):=by rw[hf];rw[nL,nL]at x_;exact x_
            refine DD de (((JR.trans iK).trans nI).trans ub) awE GW Lz pR Yh (fun _ e=>?_);rw[hf]at e;have:=(jj e (by decide)).2;rw[←JH];simpa using this
           simp only[Ck oQ,aa];refine S.Un hT (Se ?_);simp only[ck];refine aN (fun z=>?_) (fun z=>?_)
           · simp only[Ck oQ,aa];refine Zr aw hT x.name _ _ ?_;simp only[gk,aa];refine oU aw hT nD _ _ fun cy iK mW=>?_;refine uc cy iK ?_;rw[z,Bool.true_and];exact mW
           · have z:gH x.name=false:=by simpa using z
             refine oU aw hT nD _ _ fun cy iK mW=>?_;refine uc cy iK ?_;rw[z,Bool.false_and];exact mW
         · have c1:¬x.kind=1:=by simpa using c1
           refine aN (fun c2=>?_) (fun c2=>?_)
           · have c2:x.kind=2:=by simpa using c2
             have hf:gz vars bP s4 d x=s4.cZ (s4.has x.name) 6:=by unfold gz;rw[if_neg c1,if_pos c2]
             simp only[Ck oQ,aa];refine IF aw hT ahh (by rw[sC];omega) x.name _ _ ?_;refine oU aw hT nD _ _ fun cy iK mW=>?_;have ug:=iK.2 _ _ (fun e=>bU e.symm) oQ;have Bj:=GO.qi nD iK;refine DD cy (JR.trans iK) (by rw[hf];exact mW) ug Bj (by rw[hf,iH,sC]) (by rw[hf,nL,JH]) (fun e=>absurd e c1)
           · have c2:¬x.kind=2:=by simpa using c2
             have Lq:∀b:Bool,(b=true↔(x.kind=3∨x.kind=4∨x.kind=5∨x.kind=6))→S.Oa (au C) (.ptr id 0) (.int .i64 d) (.ptr H5.n 0) ([own,.int .i64 i],H5) (aB (S.yA (au C) (.ptr id 0) (aQ aC.cells l) (.int .i64 d) Q)) Q [.bool b] bZ:=by
              intro b hb;unfold S.Oa;simp only[aA,vN,aD,aG];refine aN (fun z=>?_) (fun z=>?_)
              · have z:=hb.1 z;have hf:gz vars bP s4 d x=mI vars s4 x.kind d x.place:=by unfold gz;rw[if_neg c1,if_neg c2,if_pos z]
                simp only[ab,Nat.zero_add,Fj oQ,avS oQ,aa];refine aae aw hT pY hv gL (fun p hp=>NW aw hT pY hv (jM.2 p hp).1 fun i hi=>⟨(jM.2 p hp).2 i hi,abf aw hT pY hv i ((jM.2 p hp).2 i hi)⟩) nD (by rw[sC];exact BN GO) (by rw[sC];omega) d0 (by omega) fun cy iK mW Wz=>?_;have ug:=iK.2 _ _ (fun e=>bU e.symm) oQ;have Bj:=GO.qi nD iK;refine DD cy (JR.trans iK) (by rw[hf];exact mW) ug Bj (by rw[hf,Wz,sC]) (by rw[hf,abn,JH]) (fun e=>absurd e c1)
              · have z:¬(x.kind=3∨x.kind=4∨x.kind=5∨x.kind=6):=fun e=>z (hb.2 e);have hf:gz vars bP s4 d x=s4:=by unfold gz;rw[if_neg c1,if_neg c2,if_neg z]
                refine DD bZ JR (by rw[hf];exact nD) oQ GO (by rw[hf,sC]) (by rw[hf,JH]) (fun e=>absurd e c1)
             simp only[kG,mL,aa,ck];refine aN (fun z=>?_) (fun z=>?_)
             · have z:x.kind≥3:=of_decide_eq_true z;exact Lq _ ⟨fun e=>by have:=of_decide_eq_true e;omega,fun e=>decide_eq_true (by omega)⟩
             · have z:¬x.kind≥3:=fun e=>z (decide_eq_true e);exact Lq false ⟨fun e=>(by cases e),fun e=>by omega⟩
       · have z2:s3.aV≠0:=by simpa using z2
         have wk:ib s1 d x=s3:=by rw[hH,oV z2]
         unfold S.Ie;simp only[aA,aD];rw[if_pos trivial];exact bad H9 GI (by rw[wk];exact z2) (by rw[wk];exact h9)
     · have z1:s2.aV≠0:=by simpa using z1
       have wk:ib s1 d x=s2:=by rw[hH,oV z1,oV z1]
       unfold S.Ob;simp only[aA,cj,aG];rw[if_neg (by decide)];unfold S.Ie;simp only[aA,aD];rw[if_pos trivial];exact bad H8 Lp (by rw[wk];exact z1) (by rw[wk];exact h8)
   · have hz:s'.aV≠0:=by rw[←e1];simpa using q
     rw[vj vars bP hz]at he;have A3:gQ vars bP s d l=s'.back s.locals.length:=he.symm;refine hQ H5 k5 ?_ ?_
     ·rw[A3];exact rV.aY ⟨s'',QZ,e1,e2,e3⟩ rfl rfl (fun _=>rfl)
     ·rw[A3];exact fun e=>absurd e hz
 exact main l 0 s own H1 rfl k1 h1 (fun _=>ho) hLI rfl
theorem aou(pY:vars.length≤maxLen)(hv:∀v∈vars,v.ok):∀x:aC,x.ok→Jl C id vars bP x.aZ∧Jl C id vars bP x.bz:=by refine aC.ind fun x iht k_ hx=>?_;obtain⟨_,_,⟨qI,Bc⟩,fA,heo⟩:=aC.eS hx;exact⟨Uk aw hT pY hv qI Bc fun y hy=>iht y hy (Bc y hy),Uk aw hT pY hv fA heo fun y hy=>k_ y hy (heo y hy)⟩
end
end Rb

namespace Rb
open Go
section
variable{C:Ctx}(aw:dz C)(hT:Cl (au C) S.cH)
include aw hT
theorem amx(p:jT)(hp:p.ok):cG (au C) K.f5 [.agg p.cells] (Qt (jk bP p)):=by
 obtain⟨⟨pY,hv⟩,qI,ht⟩:=hp;refine cG.of aw (by simp[AV.dD,AV.cD,jT.cD]) rfl fun Q hQ=>S.auG hT ?_;have fin:∀(a b:Int) H',(a,b)=jk bP p→Q (.agg [.int .i64 a,.int .i64 b]) H':=fun a b H' h=>by have:=hQ H';rw[←h]at this;exact this
 clear hQ;have Cw:bB AH.mt false 2 (.agg p.cells)=some (.av p.cells,AH.mt):=by unfold bB;rw[if_pos ⟨rfl,rfl⟩];rfl
 have vc:∀H,J H 1 false (.av (p.cells.drop 0))=some (aQ aK.cells p.vars):=fun _=>rfl;have rK:∀H,J H 1 false (.av (p.cells.drop 1))=some (aQ oW p.threads):=fun _=>rfl;unfold S.f5;simp only[Cw,bw,be,if_true,ab,aa,vc,cu,eY,cj];generalize hH0:AH.mt=H0;have we:=At.new H0 (.row [.int .i64 0,.int .i64 0]);generalize H0.push (.row [.int .i64 0,.int .i64 0])=H4 at *;generalize H0.n=dK at *;have out:∀(a b:Int)(H1:AH),At H1 dK (.row [.int .i64 0,.int .i64 0])→(a,b)=jk bP p→Do (aH H1 2 (.ptr dK 0) (.agg [.int .i64 a,.int .i64 b])) fun H2=>Do (J H2 2 true (.ptr dK 0)) fun x=>Q x H2:=by intro a b H1 ha he;rw[ha.put (n:=2) rfl rfl rfl];simp only[aa];rw[(ha.set _).all (n:=2) rfl];simp only[aa];exact fin a b _ he
 have nB:∀e:Int,bJ [.int .i64 0,.int .i64 0] [(1,1,.int .i64 e)]=some (.agg [.int .i64 0,.int .i64 e]):=fun _=>rfl;unfold jk at out;have lU : ¬(32<p.vars.length∨p.threads.length<1∨8<p.threads.length)→ak (S.UP (au C) (.av p.cells) (.ptr dK 0) Q) [] H4:=by
  intro hn;rw[if_neg hn]at out;simp only[aG,S.UP];have rF:q_ bP p.vars=if fF bP [] p.vars≠0 then fF bP [] p.vars else if lH 0 p.vars>65536 then 9 else 0:=by unfold q_;rw[if_neg (by omega)];exact Tj bP 70000 rfl p.vars [] 0 0 (by decide) (by simp) (by omega)
  have thr:∀(H9:AH),At H9 dK (.row [.int .i64 0,.int .i64 0])→q_ bP p.vars=0→aB (S.I2 (au C) (.av p.cells) (.ptr dK 0) Q) ([.int .i64 0],H9):=by
   intro H9 h9 hz;rw[if_neg (by simpa using hz)]at out;have main:∀(r:List (List aC)) (i:Nat) (H1:AH),p.threads.drop i=r→At H1 dK (.row [.int .i64 0,.int .i64 0])→vx bP p.vars r=vx bP p.vars p.threads→aB (S.I2 (au C) (.av p.cells) (.ptr dK 0) Q) ([.int .i64 i],H1):=by
    intro r;induction r with
    | nil=>intro i H1 hd ha he;have hle:=fe hd;refine aB.step ?_;simp only[S.I2,aA,ab,rK,cu,bF,aa,aD];rw[if_neg (by simp only[decide_eq_true_eq];omega)];simp only[aG,S.af8];rw[show bJ [.int .i64 0,.int .i64 0] []=some (.agg [.int .i64 0,.int .i64 0])from rfl];simp only[aa];exact out 0 0 H1 ha he
    | cons t r ih=>
     intro i H1 hd ha he;obtain⟨aO,hx,bC⟩:=eX hd;obtain⟨FJ,yo⟩:=ht t (List.mem_of_getElem? hx);refine aB.step ?_;simp only[S.I2,aA,ab,vc,rK,cu,bF,aa,aD];rw[if_pos (by simp only[decide_eq_true_eq];omega)];rw[show bJ [.aq .nil 0 [],.int .i64 0,.int .i64 0,.int .i64 0,.int .i64 0] [(0,1,aQ aK.cells p.vars)]=some (.agg (fo p.vars s0))from rfl];simp only[aa];have hb:bB H1 true 5 (.agg (fo p.vars s0))=some (.ptr H1.n 0,H1.push (.row (fo p.vars s0))):=by unfold bB;rw[if_pos ⟨rfl,rfl⟩];rfl
     rw[hb];simp only[bw];have Xz:=At.new H1 (.row (fo p.vars s0));have bU:dK≠H1.n:=ha.qR;have a3:=ha.push (.row (fo p.vars s0));generalize H1.push (.row (fo p.vars s0))=H2 at *;generalize H1.n=id at *;rw[d_ aO];simp only[aa];have uY:J H2 1 false (iB oW 1 p.threads i)=some (aQ aC.cells t):=HA (c:=fun l=>aQ aC.cells l) H2 hx;rw[uY];simp only[aa];refine Uk aw hT (by omega) hv FJ yo (fun x zI=>aou aw hT (by omega) hv x (yo x zI)) s0 (.aq .nil 0 []) 1 H2 _ (rV.of Xz) ⟨.nil,rfl⟩ (by decide) (fun _=>⟨by decide,by decide⟩) (by decide) (by decide) fun H5 k5 h5 _=>?_;have Ku:=k5.2 dK _ bU a3;obtain⟨s5,r5,f1,f2,_⟩:=h5;rw[vx]at he;generalize gQ p.vars bP s0 1 t=s6 at *;have i34:J H5 1 false (.ptr id (3+1))=some (.int .i64 s5.aV):=by rw[r5.load];rfl
     have i32:J H5 2 true (.ptr id 3)=some (.agg [.int .i64 s5.nN,.int .i64 s5.aV]):=by rw[r5.load];rfl
     simp only[bR,ab,Nat.zero_add,aa,i34,i32,eK,aD];refine aN (fun h=>?_) (fun h=>?_)
     · rw[f1,f2];rw[f1]at h;rw[if_pos (by simpa using h)]at he;exact out _ _ H5 Ku he
     · rw[f1]at h;rw[if_neg (by simpa using h)]at he;simp only[cp,aa];rw[wrap_i64 (by omega) (by omega),show((i:Int)+1)=((i+1:Nat):Int) by simp];exact ih (i+1) H5 bC Ku he
   exact main p.threads 0 H9 rfl h9 rfl
  have main:∀(r:List aK)(i:Nat)(H1:AH),p.vars.drop i=r→At H1 dK (.row [.int .i64 0,.int .i64 0])→fF bP ((p.vars.take i).map (·.name)) r=fF bP [] p.vars→aB (S.E_ (au C) (.av p.cells) (.ptr dK 0) Q) ([.int .i64 i],H1):=by
   intro r;induction r with
   | nil=>
    intro i H1 hd ha he;have hle:=fe hd;refine aB.step ?_;simp only[S.E_,aA,ab,vc,cu,bF,aa,aD];rw[if_neg (by simp only[decide_eq_true_eq];omega)];simp only[aG,S.af9,ab,vc,aa];rw[fF]at he;have hvz:=TM bP he.symm;rw[if_neg (by rw[←he];decide)]at rF;refine am6 aw hT (by omega) hv hvz (fun ox H' E ho aw4=>?_) (fun H' E aw4=>?_)
    · simp only[db,List.getElem?_cons_zero,List.getElem?_cons_succ,aa,eK,aD];rw[if_neg (by decide)];exact thr H' (ha.ext E) (by rw[rF,if_neg (by omega)])
    · simp only[db,List.getElem?_cons_zero,List.getElem?_cons_succ,aa,eK,aD];rw[if_pos (by decide),nB];simp only[aa];have h9:q_ bP p.vars=9:=by rw[rF,if_pos (by omega)]
      rw[if_pos (by rw[h9];decide),h9]at out;exact out 0 9 H' (ha.ext E) rfl
   | cons v r ih=>
    intro i H1 hd ha he;obtain⟨aO,hx,bC⟩:=eX hd;have gI:=List.mem_of_getElem? hx;rw[fF]at he;refine aB.step ?_;simp only[S.E_,aA,ab,vc,cu,bF,aa,aD];rw[if_pos (by simp only[decide_eq_true_eq];omega),d_ aO];simp only[aa];rw[gO aK.len (by decide) _ hx];simp only[aa,be,if_true,bw];rw[fC _ _ _ 7 v.len v.scalar rfl];have q2:=At.new H1 (.row v.cells);have a2:=ha.push (.row v.cells);simp only[aa];generalize H1.push (.row v.cells)=H2 at *;have v0:∀H',At H' H1.n (.row v.cells)→J H' 1 false (.ptr H1.n 0)=some (.str v.name):=fun H' h=>by rw[h.load];cases v;rfl
    have v1:∀H',At H' H1.n (.row v.cells)→J H' 6 true (.ptr H1.n 1)=some (.agg v.type.cells):=fun H' h=>by
     rw[h.load];cases v with
     | mk name type=>have Ru:=type.len;show cC (.str name::type.cells) 1 6 true=_;unfold cC;rw[if_pos (by rw[List.length_cons];omega),if_pos rfl];show some (AV.agg (type.cells.take 6))=_;rw[List.take_of_length_le (by omega)]
    have bad:∀(e:Int)(H':AH),At H' dK (.row [.int .i64 0,.int .i64 0])→e≠0→fF bP [] p.vars=e→Do (aH H' 2 (.ptr dK 0) (.agg [.int .i64 0,.int .i64 e])) fun H2=>Do (J H2 2 true (.ptr dK 0)) fun x=>Q x H2:=by
     intro e H' fg j0 Gq;have hve:q_ bP p.vars=e:=by rw[rF,Gq,if_pos j0]
     rw[if_pos (by rw[hve];exact j0),hve]at out;exact out 0 e H' fg rfl
    have k5:∀b:Bool,(b=true↔(gH v.name=false∨bP v.name=true))→S.Qf (au C) (.av p.cells) (.ptr dK 0) (.ptr H1.n 0) ([.int .i64 i],H1) (aB (S.E_ (au C) (.av p.cells) (.ptr dK 0) Q)) Q [.bool b] H2:=by
     intro b hb;unfold S.Qf;simp only[aA,aD,aG];refine aN (fun z=>?_) (fun z=>?_)
     · rw[if_pos (hb.1 z)]at he;rw[nB];simp only[aa];exact bad 6 H2 a2 (by decide) he.symm
     rw[if_neg (fun y=>z (hb.2 y))]at he;unfold S.af7;have inner:∀(m k:Nat),k+m=i→(∀j,j<k→∀w,p.vars[j]?=some w→w.name≠v.name)→aB (S.Qg (au C) (.av p.cells) (.ptr dK 0) (.ptr H1.n 0) ([.int .i64 i],H1) (aB (S.E_ (au C) (.av p.cells) (.ptr dK 0) Q)) Q) ([.int .i64 k],H2):=by
      intro m;induction m with
      | zero=>
       intro k hk u0;refine aB.step ?_;simp only[S.Qg,aA,bF,aa,aD];rw[if_neg (by simp only[decide_eq_true_eq];omega)];have hc:¬((p.vars.take i).map (·.name)).contains v.name=true:=by
        intro q;rw[List.contains_iff_mem]at q;obtain⟨w,hw,e⟩:=List.mem_map.1 q;obtain⟨j,hj⟩:=List.getElem?_of_mem hw;rw[List.getElem?_take]at hj;split at hj
        ·exact u0 j (by omega) w hj e
        ·cases hj
       rw[if_neg hc]at he;simp only[aG,S.af6,ab,Nat.zero_add,v1 H2 q2,aa];refine ZB aw hT v.type (hv v gI).2 _ _ ?_;simp only[eK,aa,aD];refine aN (fun y=>?_) (fun y=>?_)
       · have y:(cd v.type).2≠0:=by simpa using y
         rw[if_pos y]at he;rw[nB];simp only[aa];exact bad _ H2 a2 y he.symm
       · have y:(cd v.type).2=0:=by simpa using y
         rw[if_neg (by simpa using y)]at he;simp only[aG,S.af5,aA,cp,aa];rw[wrap_i64 (by omega) (by omega),show((i:Int)+1)=((i+1:Nat):Int) by simp];refine ih (i+1) H2 bC a2 ?_;rw[List.take_add_one,hx,List.map_append];exact he
      | succ m YB=>
       intro k hk u0;obtain ⟨w, hw⟩ : ∃ w, p.vars[k]? = some w := ⟨p.vars[k]'(by omega), List.getElem?_eq_getElem _⟩
       obtain⟨pa,qa,ra,e1,e2,e3,e4,e5⟩:=Ud aw hT hw;refine aB.step ?_;simp only[S.Qg,aA,bF,aa,aD];rw[if_pos (by simp only[decide_eq_true_eq];omega)];simp only[show ab 0 (.av p.cells)=some (.av (p.cells.drop 0))from rfl,vc,aa,e1,e2,e4];simp only[ab,Nat.zero_add,v0 H2 q2,aa,lq,aD];refine aN (fun y=>?_) (fun y=>?_)
       · have y:w.name=v.name:=by simpa using y
         have hc:((p.vars.take i).map (·.name)).contains v.name=true:=by
          rw[List.contains_iff_mem];refine List.mem_map.2 ⟨w,?_,y⟩;have:(p.vars.take i)[k]?=some w:=by rw[List.getElem?_take,if_pos (by omega)];exact hw
          exact List.mem_of_getElem? this
         rw[if_pos hc]at he;rw[nB];simp only[aa];exact bad 7 H2 a2 (by decide) he.symm
       · have y:¬w.name=v.name:=by simpa using y
         simp only[cp,aa];rw[wrap_i64 (by omega) (by omega),show((k:Int)+1)=((k+1:Nat):Int) by simp];refine YB (k+1) (by omega) fun j hj w' u_=>?_;rcases Nat.lt_or_eq_of_le (Nat.le_of_lt_succ hj)with hj|rfl
         ·exact u0 j hj w' u_
         ·rw[hw]at u_;cases u_;exact y
     exact inner i 0 (by omega) fun j hj=>by omega
    simp only[ab,Nat.zero_add,v0 H2 q2,aa];refine S.Un hT (Se ?_);simp only[gk,aa,cj,aG];refine gG (fun z=>?_) (fun z=>?_)
    · simp only[ab,Nat.zero_add,v0 H2 q2,aa];refine Zr aw hT v.name _ _ ?_;refine k5 _ ⟨fun e=> .inr e,fun e=>?_⟩;rcases e with e|e
      ·rw[e]at z;cases z
      ·exact e
    ·refine k5 true ⟨fun _=> .inl (by simpa using z),fun _=>rfl⟩
  exact main p.vars 0 H4 rfl we rfl
 have iK:∀b:Bool,(b=true↔(32<p.vars.length∨p.threads.length<1∨8<p.threads.length))→ak (S.O5 (au C) (.av p.cells) (.ptr dK 0) Q) [.bool b] H4:=by
  intro b hb;simp only[aG,S.O5,aA,aD];refine aN (fun h=>?_) (fun h=>?_)
  · rw[if_pos (hb.1 h)]at out;rw[nB];simp only[aa];exact out 0 12 H4 we rfl
  ·exact lU fun y=>h (hb.2 y)
 have nI:∀b:Bool,(b=true↔(32<p.vars.length∨p.threads.length<1))→ak (S.O6 (au C) (.av p.cells) (.ptr dK 0) Q) [.bool b] H4:=by
  intro b hb;simp only[aG,S.O6,aA,cj,ab,aa,rK,cu,eY];refine gG (fun h=>?_) (fun h=>?_)
  · refine iK _ ?_;have hn:¬(32<p.vars.length∨p.threads.length<1):=fun y=>by have:=hb.2 y;rw[h]at this;cases this
    simp only[decide_eq_true_eq,gt_iff_lt];omega
  · refine iK _ ?_;have:=hb.1 h;simp only[true_iff];omega
 refine gG (fun h=>?_) (fun h=>?_)
 · simp only[rK,aa,cu,cn];refine nI _ ?_;simp only[decide_eq_false_iff_not,gt_iff_lt]at h;simp only[beq_iff_eq];omega
 · refine nI _ ?_;simp only[decide_eq_true_eq,gt_iff_lt]at h;simp only[true_iff];omega
end
end Rb

namespace Rb
open Go
structure dr where
 kind:Int
 dst:Int
 FB:Int
 a:Int
 b:Int
 c:Int
 n:Int
 op:Int
 size:Int
 order:Int
 fB:Int
 site:Int
 line:Int
def dr.cells(o:dr):List AV:=[.int .i64 o.kind,.int .i64 o.dst,.int .i64 o.FB,.int .i64 o.a,.int .i64 o.b,.int .i64 o.c,.int .u64 o.n,.int .i64 o.op,.int .i64 o.size,.int .i64 o.order,.int .i64 o.fB,.int .i64 o.site,.int .i64 o.line]
theorem dr.len(o:dr):o.cells.length=13:=rfl
theorem dr.scalar(o:dr):o.cells.all AV.scalar=true:=rfl
def Y2(k:Int):dr:=⟨k,-1,-1,-1,-1,-1,0,0,0,0,0,0,0⟩
structure LD where
 A:List dr
 bK:Nat
 labels:Nat
 sn:Nat
 sc:List AV
 line:Int
 L:List (List UInt8×Nat)
def sJ(p:List UInt8×Nat):List AV:=[.str p.1,.int .i64 (p.2:Int)]
def LD.add(c:LD)(o:dr):LD:={c with A:=c.A++[{o with line:=c.line}]}
def fO(R:Nat)(r:Int):Prop:= -1≤r∧r<(R:Nat)
theorem fO.mono{R S:Nat}{r:Int}(h:fO R r)(k:R≤S):fO S r:=⟨h.1,by have:=h.2;omega⟩
theorem fO.none(R:Nat):fO R (-1):=⟨Int.le_refl _,by omega⟩
structure pJ(R S:Nat)(o:dr):Prop where
 k1:1≤o.kind
 k2:o.kind≤18
 dst:fO R o.dst
 FB:fO R o.FB
 a:fO R o.a
 b:fO R o.b
 c:fO R o.c
 site:4≤o.kind→o.kind≤13→1≤o.site∧o.site≤(S:Nat)
 size:4≤o.kind→o.kind≤7→o.size=1∨o.size=2∨o.size=4∨o.size=8
theorem pJ.mono{R S R' S':Nat}{o:dr}(h:pJ R S o)(hR:R≤R')(hS:S≤S'):pJ R' S' o:=⟨h.k1,h.k2,h.dst.mono hR,h.FB.mono hR,h.a.mono hR,h.b.mono hR,h.c.mono hR,fun a b=>by have:=h.site a b;omega,h.size⟩
theorem pJ.line{R S:Nat}{o:dr}(h:pJ R S o)(l:Int):pJ R S {o with line:=l}:=⟨h.k1,h.k2,h.dst,h.FB,h.a,h.b,h.c,h.site,h.size⟩
def zo(o:dr):Prop:=¬(14≤o.kind∧o.kind≤16)
def lB(t:Int)(l:List dr):Nat:=(l.filter fun o=>o.kind==14&&o.fB==t).length
theorem Mu(t:Int)(a b:List dr):lB t (a++b)=lB t a+lB t b:=by simp[lB]
structure lJ(l0 l1:Nat)(new:List dr):Prop where
 le:l0≤l1
 fB:∀o∈new,14≤o.kind→o.kind≤16→(l0:Int)<o.fB∧o.fB≤(l1:Int)
 one:∀t:Int,(l0:Int)<t→t≤(l1:Int)→lB t new=1
theorem Bz{l0 l1:Nat}{new:List dr}(h:lJ l0 l1 new){t:Int}(ht:t≤l0∨(l1:Int)<t):lB t new=0:=by unfold lB;rw[List.length_eq_zero_iff,List.filter_eq_nil_iff];intro o ho hh;simp only[Bool.and_eq_true,beq_iff_eq]at hh;have:=h.fB o ho (by omega) (by omega);omega
theorem lJ.nil(l:Nat):lJ l l []:=⟨Nat.le_refl _,fun o ho=>(by cases ho),fun t h1 h2=>by omega⟩
theorem lJ.trans{l0 l1 l2:Nat}{a b:List dr}(h:lJ l0 l1 a)(k:lJ l1 l2 b):lJ l0 l2 (a++b):=by
 have h1:=h.le;have k1:=k.le;refine⟨by omega,fun o ho A1 wj=>?_,fun t t0 t1=>?_⟩
 · rcases List.mem_append.1 ho with ho|ho
   ·have:=h.fB o ho A1 wj;omega
   ·have:=k.fB o ho A1 wj;omega
 · rw[Mu];by_cases hm:t≤l1
   ·rw[h.one t t0 hm,Bz k (.inl hm)]
   ·rw[Bz h (.inr (by omega)),k.one t (by omega) t1]
theorem lJ.none{l:Nat}{new:List dr}(h:∀o∈new,zo o):lJ l l new:=⟨Nat.le_refl _,fun o ho a b=>absurd ⟨a,b⟩ (h o ho),fun t h1 h2=>by omega⟩
structure BD(c:LD)(w:Nat):Prop where
 A:c.A.length+w≤1000000000000
 r:c.bK+w≤1000000000000
 l:c.labels+w≤1000000000000
 s:c.sn+w≤1000000000000
 L:c.L.length+w≤1000000000000
structure GE(c c':LD)(w k:Nat):Prop where
 new:∃new,c'.A=c.A++new∧new.length≤w∧(∀o∈new,pJ c'.bK c'.sn o∧zo o)
 r0:c.bK≤c'.bK
 r1:c'.bK≤c.bK+w
 s0:c.sn≤c'.sn
 s1:c'.sn≤c.sn+k
 s2:c'.sn≤c.sn+w
 rI:c'.labels=c.labels
 L:c'.L=c.L
 line:c'.line=c.line
theorem GE.refl(c:LD):GE c c 0 0:=⟨⟨[],by simp,Nat.le_refl _,fun o ho=>by cases ho⟩,Nat.le_refl _,Nat.le_refl _,Nat.le_refl _,Nat.le_refl _,Nat.le_refl _,rfl,rfl,rfl⟩
theorem GE.trans{c c1 c2:LD}{w k w' k':Nat}(h:GE c c1 w k)(g:GE c1 c2 w' k'):GE c c2 (w+w') (k+k'):=by
 obtain⟨n1,a1,b1,d1⟩:=h.new;obtain⟨n2,a2,b2,d2⟩:=g.new;have h1:=h.r0;have h2:=h.r1;have h3:=h.s0;have h4:=h.s1;have h5:=h.s2;have g1:=g.r0;have g2:=g.r1;have g3:=g.s0;have g4:=g.s1;have g5:=g.s2;refine⟨⟨n1++n2,by rw[a2,a1,List.append_assoc],by rw[List.length_append];omega,fun o ho=>?_⟩,by omega,by omega,by omega,by omega,by omega,g.rI.trans h.rI,g.L.trans h.L,g.line.trans h.line⟩;rcases List.mem_append.1 ho with ho|ho
 ·exact⟨(d1 o ho).1.mono g1 g3,(d1 o ho).2⟩
 ·exact d2 o ho
theorem GE.mono{c c':LD}{w k w' k':Nat}(h:GE c c' w k)(hw:w≤w')(hk:k≤k'):GE c c' w' k':=by obtain⟨n1,a1,b1,d1⟩:=h.new;have h2:=h.r1;have h4:=h.s1;have h5:=h.s2;exact⟨⟨n1,a1,by omega,d1⟩,h.r0,by omega,h.s0,by omega,by omega,h.rI,h.L,h.line⟩
theorem BD.mono{c:LD}{w w':Nat}(h:BD c w)(k:w'≤w):BD c w':=⟨by have:=h.A;omega,by have:=h.r;omega,by have:=h.l;omega,by have:=h.s;omega,by have:=h.L;omega⟩
theorem GE.bd{c c':LD}{w k m:Nat}(g:GE c c' w k)(h:BD c (w+m)):BD c' m:=by obtain⟨n1,a1,b1,d1⟩:=g.new;have h1:=h.A;have h2:=h.r;have h3:=h.l;have h4:=h.s;have h5:=h.L;have g2:=g.r1;have g5:=g.s2;refine⟨by rw[a1,List.length_append];omega,by omega,by rw[g.rI];omega,by omega,by rw[g.L];omega⟩
theorem GE.add{c:LD}{o:dr}(h:pJ c.bK c.sn o)(hn:zo o):GE c (c.add o) 1 0:=
 ⟨⟨[{o with line:=c.line}],rfl,Nat.le_refl _,fun p hp=>by rw[List.mem_singleton]at hp;subst hp;exact⟨h.line _,hn⟩⟩,Nat.le_refl _,Nat.le_succ _,Nat.le_refl _,Nat.le_refl _,Nat.le_succ _,rfl,rfl,rfl⟩
theorem GE.S8{c:LD}{o:dr}(h:pJ (c.bK+1) c.sn o)(hn:zo o):GE c ({c with bK:=c.bK+1}.add o) 1 0:=
 ⟨⟨[{o with line:=c.line}],rfl,Nat.le_refl _,fun p hp=>by rw[List.mem_singleton]at hp;subst hp;exact⟨h.line _,hn⟩⟩,Nat.le_succ _,Nat.le_refl _,Nat.le_refl _,Nat.le_refl _,Nat.le_succ _,rfl,rfl,rfl⟩
structure GS(c c':LD)(w k:Nat):Prop where
 new:∃new,c'.A=c.A++new∧new.length≤w∧(∀o∈new,pJ c'.bK c'.sn o)∧lJ c.labels c'.labels new
 r0:c.bK≤c'.bK
 r1:c'.bK≤c.bK+w
 s0:c.sn≤c'.sn
 s1:c'.sn≤c.sn+k
 s2:c'.sn≤c.sn+w
 l1:c'.labels≤c.labels+w
theorem GE.gs{c c':LD}{w k:Nat}(h:GE c c' w k):GS c c' w k:=by obtain⟨n1,a1,b1,d1⟩:=h.new;exact⟨⟨n1,a1,b1,fun o ho=>(d1 o ho).1,by rw[h.rI];exact lJ.none fun o ho=>(d1 o ho).2⟩,h.r0,h.r1,h.s0,h.s1,h.s2,by rw[h.rI];omega⟩
theorem GS.trans{c c1 c2:LD}{w k w' k':Nat}(h:GS c c1 w k)(g:GS c1 c2 w' k'):GS c c2 (w+w') (k+k'):=by
 obtain⟨n1,a1,b1,d1,e1⟩:=h.new;obtain⟨n2,a2,b2,d2,e2⟩:=g.new;have h1:=h.r0;have h2:=h.r1;have h3:=h.s0;have h4:=h.s1;have h5:=h.s2;have h6:=h.l1;have g1:=g.r0;have g2:=g.r1;have g3:=g.s0;have g4:=g.s1;have g5:=g.s2;have g6:=g.l1;refine⟨⟨n1++n2,by rw[a2,a1,List.append_assoc],by rw[List.length_append];omega,fun o ho=>?_,e1.trans e2⟩,by omega,by omega,by omega,by omega,by omega,by omega⟩;rcases List.mem_append.1 ho with ho|ho
 ·exact(d1 o ho).mono g1 g3
 ·exact d2 o ho
theorem GS.mono{c c':LD}{w k w' k':Nat}(h:GS c c' w k)(hw:w≤w')(hk:k≤k'):GS c c' w' k':=by obtain⟨n1,a1,b1,d1,e1⟩:=h.new;have h2:=h.r1;have h4:=h.s1;have h5:=h.s2;have h6:=h.l1;exact⟨⟨n1,a1,by omega,d1,e1⟩,h.r0,by omega,h.s0,by omega,by omega,by omega⟩
theorem GS.A{c c':LD}{w k:Nat}(g:GS c c' w k):c'.A.length≤c.A.length+w:=by obtain⟨n1,a1,b1,d1,e1⟩:=g.new;rw[a1,List.length_append];omega
theorem GS.bd{c c':LD}{w k m:Nat}(g:GS c c' w k)(h:BD c (w+m))(hL:c'.L.length≤c.L.length+w):BD c' m:=by have h1:=h.A;have h2:=h.r;have h3:=h.l;have h4:=h.s;have h5:=h.L;have g1:=g.A;have g2:=g.r1;have g5:=g.s2;have g6:=g.l1;exact⟨by omega,by omega,by omega,by omega,by omega⟩
mutual
def gK:aF→Nat
 | .mk kind n name op order place kids=>16+(if kind≥4 then 256 else 0)+kY place+gn kids
def gn:List aF→Nat
 |[]=>0
 |e::r=>gK e+gn r
def kY:aT→Nat
 | .mk var parts=>l_ parts
def l_:List a_→Nat
 |[]=>0
 |p::r=>wi p+l_ r
def wi:a_→Nat
 | .mk field index=>gn index
end
mutual
def rB:aF→Nat
 | .mk kind n name op order place kids=>nU place+il kids+(if kind≥4 then 1 else 0)
def il:List aF→Nat
 |[]=>0
 |e::r=>rB e+il r
def nU:aT→Nat
 | .mk var parts=>r_ parts
def r_:List a_→Nat
 |[]=>0
 |p::r=>C6 p+r_ r
def C6:a_→Nat
 | .mk field index=>il index
end
mutual
def sv:aC→Nat
 | .mk kind line name cW order place exprs aZ bz=>16+(if 3≤kind∧kind≤7 then 256 else 0)+kY place+gn exprs+(dT aZ+dT bz)
def dT:List aC→Nat
 |[]=>0
 |x::r=>sv x+dT r
end
mutual
def AW:aC→Nat
 | .mk kind line name cW order place exprs aZ bz=>nU place+il exprs+(if 3≤kind∧kind≤7 then 1 else 0)+(gU aZ+gU bz)
def gU:List aC→Nat
 |[]=>0
 |x::r=>AW x+gU r
end
theorem adz(e:aF):gK e=16+(if e.kind≥4 then 256 else 0)+kY e.place+gn e.kids:=by cases e;rw[gK]
theorem arV(x:aT):kY x=l_ x.parts:=by cases x;rw[kY]
theorem adC(p:a_):wi p=gn p.index:=by cases p;rw[wi]
theorem ado(e:aF):rB e=nU e.place+il e.kids+(if e.kind≥4 then 1 else 0):=by cases e;rw[rB]
theorem adp(x:aT):nU x=r_ x.parts:=by cases x;rw[nU]
theorem Uj(p:a_):C6 p=il p.index:=by cases p;rw[C6]
theorem adD(x:aC):sv x=16+(if 3≤x.kind∧x.kind≤7 then 256 else 0)+kY x.place+gn x.exprs+(dT x.aZ+dT x.bz):=by cases x;rw[sv]
theorem adq(x:aC):AW x=nU x.place+il x.exprs+(if 3≤x.kind∧x.kind≤7 then 1 else 0)+(gU x.aZ+gU x.bz):=by cases x;rw[AW]
end Rb

namespace Rb
open Go
def XF(f:aP)(x:Int×Int):Prop:=0≤x.1∧(f.bits=true→0≤x.2∧x.2≤64)∧(f.bits=false→x.2=8*(bh f.type).1.1)
theorem aud{packed:Bool}{kind bit:Int}{f:aP}(h0:0≤bit)(ho:HB packed f)(hb:Q_ f.type)(ht:(bh f.type).2=true):XF f ((i0 packed kind bit f (bh f.type).1).1,(i0 packed kind bit f (bh f.type).1).2.1):=by
 obtain⟨b1,b2,b3,b4⟩:=hb ht;have rC:0≤(if kind=4 then(0:Int)else bit):=by split;decide;exact h0
 unfold i0;dsimp only;generalize (if kind=4 then(0:Int)else bit)=b at *;by_cases nE:f.bits=true
 · obtain ⟨y0,y1,y2,y3,y4,_⟩:=ho nE;rw[if_pos nE];refine⟨?_,fun _=>⟨y3,?_⟩,fun e=>by rw[nE]at e;cases e⟩
   · show 0≤bD b _;split
     ·have:=lv (n:=b) (step:=8*f.type.size) (by omega);omega
     ·rw[NN];exact rC
   ·show f.width≤64;omega
 · rw[if_neg nE];refine⟨?_,fun e=>absurd e nE,fun _=>rfl⟩;show 0≤bD b _;split
   ·have:=lv (n:=b) (step:=8) (by omega);omega
   ·have:=lv (n:=b) (step:=8*(bh f.type).1.2) (by omega);omega
theorem adb{packed:Bool}{kind:Int}:∀{l:List aP}{p q:PL}{n:Nat},n+l.length≤32→so p n→(∀f∈l,HB packed f∧Q_ f.type)→gY packed kind p l=some q →
  ∃ss:List ec,q.gS=p.gS++ss∧∀(i:Nat)(f:aP)(s:ec),l[i]?=some f→ss[i]?=some s→∃x,s=Cj f x∧XF f x
 | [],p,q,n,hn,hp,hl,h=>by simp only[gY,Option.some.injEq]at h;subst h;exact⟨[],by simp,fun i f s hf=>by simp at hf⟩
 | f :: r,p,q,n,hn,hp,hl,h=>by
  obtain⟨o1,o2⟩:=hl f (List.mem_cons_self ..);have sD:n+1+r.length≤32:=by rw[List.length_cons]at hn;omega
  simp only[gY,EL]at h;by_cases ht:(bh f.type).2=true
  · rw [if_pos ht]at h;obtain⟨b1,b2,b3,b4⟩:=o2 ht;have hb:f.bits=true→1≤f.type.size∧f.type.size≤8∧0≤f.width∧f.width≤8*f.type.size∧packed=false∧(bh f.type).1.2=f.type.size:=fun hb=>by
     obtain⟨z1,z2,z3,z4,z5,z6⟩:=o1 hb;exact⟨z2,z3,z4,z5,z6,by rw[Ad (.inl z1)]⟩
    obtain⟨e1,e2⟩:=aa5 (packed:=packed) (kind:=kind) (g:=(bh f.type).1) (by omega) hp b1 b2 b3 b4 (fun q=>⟨(hb q).1,(hb q).2.1,(hb q).2.2.1,(hb q).2.2.2.1⟩);have e3:=ac6 (kind:=kind) hp (f:=f) (g:=(bh f.type).1) b3 (fun q=>⟨(hb q).1,(hb q).2.2.1,(hb q).2.2.2.1,(hb q).2.2.2.2.1,(hb q).2.2.2.2.2⟩);obtain⟨ss,x2,x3⟩:=adb sD e2 (fun g hg=>hl g (List.mem_cons_of_mem _ hg)) h;rw[e1,e3]at x2;refine⟨Cj f ((i0 packed kind p.bit f (bh f.type).1).1,(i0 packed kind p.bit f (bh f.type).1).2.1)::ss,by rw[x2,List.append_assoc];rfl,fun i g s hg hs=>?_⟩;cases i with
    | zero=>simp only[List.getElem?_cons_zero,Option.some.injEq]at hg hs;subst hg;exact⟨_,hs.symm,aud hp.b0 o1 o2 ht⟩
    | succ i=>simp only[List.getElem?_cons_succ]at hg hs;exact x3 i g s hg hs
  ·rw[if_neg ht]at h;cases h
structure C5(t:aE)(s:ec):Prop where
 bits:s.bits=true→t.kind=1∧0≤s.len∧s.len≤9
 len:s.bits=false→s.len=(cd t).1.1
 bit:0≤s.bit∧s.bit≤7
 wid:0≤s.width
theorem auk{t:aE}(h:t.lay)(hk:t.kind=3∨t.kind=4){n:Nat}{f:aP}{s:ec}(hf:t.fields[n]?=some f)(hs:(qd t)[n]?=some s)(pR:f.type.lay):C5 f.type s:=by
 obtain⟨p,hp,_⟩:=Mh h hk;have yk:=sW h.snd;have hlen:=Ub yk hk;have hfo:∀f∈t.fields,HB t.packed f:=by
  have hs:=yk;rw[m9]at hs;split at hs
  ·exact absurd hs (by decide)
  · rw[if_neg (show ¬t.kind=1 by omega),if_neg (show ¬t.kind=2 by omega),if_neg (show ¬t.kind=5 by omega),if_neg (by omega)]at hs;exact Ss hs
 obtain⟨ss,x1,x2⟩:=adb (n:=0) (by omega) so.zero (fun f hf=>⟨hfo f hf,VJ f.type ((Ae yk hk).1 f hf)⟩) hp;unfold qd at hs;rw[hp]at hs;dsimp only at hs;rw[x1]at hs;obtain⟨x,e,y0,y1,y2⟩:=x2 n f s hf (by simpa using hs);have hlz:=pR.zero;rw[e];unfold Cj;by_cases hb:f.bits=true
 · rw[if_pos hb];obtain⟨z0,z1⟩:=y1 hb;refine⟨fun _=>⟨(hfo f (List.mem_of_getElem? hf) hb).1,?_,?_⟩,fun e=>(by cases e),⟨?_,?_⟩,z0⟩
   ·show 0≤(if x.2>0 then _ else _);split<;>omega
   ·show(if x.2>0 then _ else _)≤_;split<;>omega
   ·show 0≤x.1%8;omega
   ·show x.1%8≤7;omega
 · rw[if_neg hb];have:=y2 (by simpa using hb);refine⟨fun e=>(by cases e),fun _=>?_,⟨Int.le_refl 0,(by decide:(0:Int)≤7)⟩,Int.le_refl 0⟩;show x.2/8=(cd f.type).1.1;rw[hlz,this];dsimp only;omega
theorem L_{t:aE}{s:ec}(ht:t.lay)(h:C5 t s)(hk:t.kind=1∨t.kind=2):0≤s.len∧s.len≤16∧(t.kind=2→s.len=t.size)∧(t.size=1∨t.size=2∨t.size=4∨t.size=8∨t.size=16):=by
 have hs:=sW ht.snd;have hz:=Tf hs hk;have hp : t.size=1∨t.size=2∨t.size=4∨t.size=8∨t.size=16:=by
  rw[m9]at hs;split at hs
  ·cases hs
  · have hp:gJ t.size 8=true∨gJ t.size 16=true:=by
      rcases hk with h1|h1
      · rw[if_pos h1]at hs;split at hs
        ·exact .inl ‹_›
        ·cases hs
      · rw[if_neg (by omega),if_pos h1]at hs;split at hs
        ·exact .inr ‹_›
        ·cases hs
    rcases hp with hp|hp<;>(simp[gJ]at hp;omega)
 have hl:(cd t).1.1=t.size:=by rw[ht.zero,Ad hk]
 cases hb:s.bits with
 | true=>have:=h.bits hb;exact⟨this.2.1,by omega,fun e=>by omega,hp⟩
 | false=>have:=h.len hb;rw[hl]at this;exact⟨by omega,by omega,fun _=>this,hp⟩
theorem Nz{k:Int}{t:aE}(h:mO k t=true):(t.kind=1∨t.kind=2)∧((k=3∨k=14)→t.kind=1)∧(¬(k=3∨k=14)→t.kind=2)∧(¬(k=3∨k=14)→¬(k=5∨k=6)→t.size≤8):=by
 unfold mO at h;by_cases h1:k=3∨k=14
 · rw[if_pos h1]at h;have:t.kind=1:=by simpa using h
   exact⟨.inl this,fun _=>this,fun e=>absurd h1 e,fun e=>absurd h1 e⟩
 · rw [if_neg h1]at h;by_cases h2:k=5∨k=6
   · rw[if_pos h2]at h;simp only[Bool.and_eq_true,beq_iff_eq]at h;exact⟨.inr h.1,fun e=>absurd e h1,fun _=>h.1,fun _ e=>absurd h2 e⟩
   · rw[if_neg h2]at h;simp only[Bool.and_eq_true,beq_iff_eq,decide_eq_true_eq]at h;exact⟨.inr h.1,fun e=>absurd e h1,fun _=>h.1,fun _ _=>h.2⟩
end Rb

namespace Rb
open Go
def tn(vars:List aK)(wh xo xs xl:AV)(c:LD):List AV:=[aQ aK.cells vars,wh,xo,.int .i64 (c.bK:Nat),.int .i64 (c.labels:Nat),xs,.int .i64 c.line,xl]
structure cz(H:AH)(id:Nat)(vars:List aK)(wh xl:AV)(c:LD):Prop where
 x:∃xo xs,At H id (.row (tn vars wh xo xs xl c))∧cU (id+1) H 13 xo c.A.length (c.A.flatMap dr.cells)∧cU (id+1) H 5 xs c.sn c.sc∧∀t l c1,xo = .aq (.own t) l c1→∀l2 c2,xs ≠ .aq (.own t) l2 c2
 l:fG H 2 xl c.L.length (c.L.flatMap sJ)
 ld:∀j,eC xl=some j→id<j
 lo:∀p∈c.L,p.2<c.bK
theorem cz.Lr{H:AH}{id:Nat}{vars:List aK}{wh xl:AV}{c:LD}(h:cz H id vars wh xl c):eC xl≠some id:=fun e=>Nat.lt_irrefl _ (h.ld _ e)
def KR(id:Nat)(H H':AH):Prop:=H.n≤H'.n∧∀i cs,i≠id→At H i (.row cs)→At H' i (.row cs)
section
variable{id j k N:Nat}{vars:List aK}{wh xl v:AV}{c c':LD}{H0 H H1 H2:AH}{cs:List AV}
theorem KR.refl:KR id H H:=⟨Nat.le_refl _,fun _ _ _ h=>h⟩
theorem KR.trans(h:KR id H H1)(k:KR id H1 H2):KR id H H2:=⟨Nat.le_trans h.1 k.1,fun i cs hi ho=>k.2 i cs hi (h.2 i cs hi ho)⟩
theorem KR.ext(E:AH.Ext H H1):KR id H H1:=⟨E.1,fun _ _ _ h=>h.ext E⟩
theorem KR.set(o:dc):KR id H (H.set id o):=⟨Nat.le_refl _,fun _ _ hi h=>h.dq hi o⟩
theorem cU.aeb{n0 sz len:Nat}{x:AV}{cells:List AV}(h:cU n0 H sz x len cells)(k:∀t l d a b,x = .aq (.own t) l d→At H t (.tok a b)→At H1 t (.tok a b)):cU n0 H1 sz x len cells:=by
 obtain⟨tk,hx,hc,ht⟩:=h;refine⟨tk,hx,hc,?_⟩;rcases ht with ht|ht|⟨t,rfl,h2,h3⟩
 ·exact .inl ht
 ·exact .inr (.inl ht)
 ·exact .inr (.inr ⟨t,rfl,h2,k t _ _ _ _ hx h3⟩)
def One(v:AV):Prop:=v.known=true∧v.cells=[v]∧v.scalar=true
theorem One.int{k:IntKind}{n:Int}:One (.int k n):=⟨rfl,rfl,rfl⟩
theorem cU.one{n0 sz len:Nat}{x:AV}{cells:List AV}(h:cU n0 H sz x len cells):One x∧br false x=some (.int .i64 len):=by obtain⟨tk,rfl,_⟩:=h;exact⟨⟨rfl,rfl,rfl⟩,rfl⟩
theorem At.lp(h:At H j (.row cs))(hk:k<cs.length)(hv:One v):aH H 1 (.ptr j k) v=some (H.set j (.row (cs.set k v))):=by rw[h.store,if_pos ⟨hv.1,by rw[hv.2.1];rfl,by rw[hv.2.1];simp[hv.2.2],hk⟩,hv.2.1];rfl
theorem cz.ext(h:cz H id vars wh xl c)(E:AH.Ext H H1):cz H1 id vars wh xl c:=by obtain⟨xo,xs,a,b,d,e⟩:=h.x;exact⟨⟨xo,xs,a.ext E,b.frame fun _ _ _ h=>h.ext E,d.frame fun _ _ _ h=>h.ext E,e⟩,h.l.ext E,h.ld,h.lo⟩
theorem cz.other(h:cz H id vars wh xl c)(hj:At H j (.row cs))(h1:j≠id)(h2:eC xl≠some j)(ds:List AV):cz (H.set j (.row ds)) id vars wh xl c:=by obtain⟨xo,xs,a,b,d,e⟩:=h.x;have f:∀t a b,At H t (.tok a b)→At (H.set j (.row ds)) t (.tok a b):=fun t a b h=>h.dq (h.ne hj (by intro e;cases e)) _;exact⟨⟨xo,xs,a.dq h1.symm _,b.frame f,d.frame f,e⟩,h.l.set h2 _,h.ld,h.lo⟩
theorem cz.LA(h:cz H id vars wh xl c):J H 1 false (.ptr id 3)=some (.int .i64 (c.bK:Nat)):=by obtain⟨xo,xs,a,_⟩:=h.x;rw[a.load];rfl
theorem cz.rI(h:cz H id vars wh xl c):J H 1 false (.ptr id 4)=some (.int .i64 (c.labels:Nat)):=by obtain⟨xo,xs,a,_⟩:=h.x;rw[a.load];rfl
theorem cz.ln(h:cz H id vars wh xl c):J H 1 false (.ptr id 6)=some (.int .i64 c.line):=by obtain⟨xo,xs,a,_⟩:=h.x;rw[a.load];rfl
theorem cz.lcs(h:cz H id vars wh xl c):J H 1 false (.ptr id 7)=some xl:=by obtain⟨xo,xs,a,_⟩:=h.x;rw[a.load];rfl
theorem cz.vs(h:cz H id vars wh xl c):J H 1 false (.ptr id 0)=some (aQ aK.cells vars):=by obtain⟨xo,xs,a,_⟩:=h.x;rw[a.load];rfl
theorem cz.whr(h:cz H id vars wh xl c):J H 1 false (.ptr id 1)=some wh:=by obtain⟨xo,xs,a,_⟩:=h.x;rw[a.load];rfl
theorem cz.own(h:cz H id vars wh xl c){n:Int}(hk:(k=3∧n=c'.bK∧c.bK≤c'.bK∧c'.labels=c.labels∧c'.line=c.line)∨(k=4∧n=c'.labels∧c'.bK=c.bK∧c'.line=c.line)∨(k=6∧n=c'.line∧c'.bK=c.bK∧c'.labels=c.labels))(h1:c'.A=c.A)(h2:c'.sn=c.sn)(h3:c'.sc=c.sc)(h4:c'.L=c.L) :
  ∃H',aH H 1 (.ptr id k) (.int .i64 n)=some H'∧KR id H H'∧cz H' id vars wh xl c':=by
 obtain⟨xo,xs,a,b,d,e⟩:=h.x;refine⟨_,a.lp (by rcases hk with⟨rfl,_⟩|⟨rfl,_⟩|⟨rfl,_⟩<;>(show _<8;decide)) One.int,KR.set _,⟨xo,xs,?_,?_,?_,e⟩,by rw[h4];exact h.l.set h.Lr _,h.ld,?_⟩
 · have:(tn vars wh xo xs xl c).set k (.int .i64 n)=tn vars wh xo xs xl c':=by
     unfold tn;rcases hk with⟨rfl,rfl,_,k1,k2⟩|⟨rfl,rfl,k1,k2⟩|⟨rfl,rfl,k1,k2⟩<;>(rw[k1,k2];rfl)
   rw[this];exact a.set _
 ·rw[h1];exact b.frame fun t _ _ h=>h.dq (h.ne a (by intro e;cases e)) _
 ·rw[h2,h3];exact d.frame fun t _ _ h=>h.dq (h.ne a (by intro e;cases e)) _
 · rw[h4];intro p hp;have:=h.lo p hp;rcases hk with⟨_,_,k1,_⟩|⟨_,_,k1,_⟩|⟨_,_,k1,_⟩<;>omega
structure Bx(H0:AH)(id:Nat)(xl:AV)(H:AH)(j N:Nat)(cs:List AV):Prop where
 a:At H j (.row cs)
 ne:j≠id
 nx:eC xl≠some j
 lo:H0.n≤j
 len:cs.length=N
theorem Bx.aY(b:Bx H0 id xl H j N cs)(k:KR id H H1):Bx H0 id xl H1 j N cs:=⟨k.2 _ _ b.ne b.a,b.ne,b.nx,b.lo,b.len⟩
theorem cz.box(h:cz H id vars wh xl c)(k:KR id H0 H)(hl:cs.length=N):Bx H0 id xl (H.push (.row cs)) H.n N cs:=by obtain⟨xo,xs,a,_⟩:=h.x;exact⟨At.new H _,by have:=a.1;omega,fun e=>by have:=h.l.lt e;omega,k.1,hl⟩
theorem KR.box(k:KR id H0 H)(hj:H0.n≤j)(o:dc):KR id H0 (H.set j o):=⟨k.1,fun i cs hi ho=>(k.2 i cs hi ho).dq (by have:=ho.1;omega) o⟩
theorem Bx.other{j2:Nat}(b:Bx H0 id xl H j N cs)(h:j≠j2)(o:dc):Bx H0 id xl (H.set j2 o) j N cs:=⟨b.a.dq h o,b.ne,b.nx,b.lo,b.len⟩
theorem Bx.set(b:Bx H0 id xl H j N cs)(ds:List AV)(hl:ds.length=N):Bx H0 id xl (H.set j (.row ds)) j N ds:=⟨b.a.set _,b.ne,b.nx,b.lo,hl⟩
theorem Bx.lt(b:Bx H0 id xl H j N cs)(k:KR id H H1):j<H1.n:=Nat.lt_of_lt_of_le b.a.1 k.1
theorem Bx.st(b:Bx H0 id xl H j N cs)(h:cz H id vars wh xl c)(k0:KR id H0 H)(hk:k<N)(hv:One v){P:AH→Prop}
  (hP:∀H',KR id H0 H'→cz H' id vars wh xl c→Bx H0 id xl H' j N (cs.set k v)→(∀j2 M ds,j2≠j→Bx H0 id xl H j2 M ds→Bx H0 id xl H' j2 M ds)→P H'):Do (aH H 1 (.ptr j k) v) P:=by
 rw[b.a.lp (by rw[b.len];exact hk) hv,aa];exact hP _ (k0.box b.lo _) (h.other b.a b.ne b.nx _) (b.set _ (by rw[List.length_set];exact b.len)) fun j2 M ds hn b2=>b2.other hn _
theorem Bx.ld(b:Bx H0 id xl H j N cs){x:AV}(hx:cs[k]?=some x):J H 1 false (.ptr j k)=some x:=by rw[b.a.load];unfold cC;have:=(List.getElem?_eq_some_iff.1 hx).1;rw[if_pos (by omega),if_neg (by decide)];exact hx
theorem Bx.all(b:Bx H0 id xl H j N cs):J H N true (.ptr j 0)=some (.agg cs):=b.a.all b.len
end
section
variable{C:Ctx}(aw:dz C)(hT:Cl (au C) S.cH){id:Nat}{vars:List aK}{wh xl:AV}{c:LD}{H0 H:AH}{Q:ae}
include aw hT
theorem sX{P:AV→AH→Prop}{k:Int}(h:cz H id vars wh xl c)(k0:KR id H0 H)(hP:∀j H',KR id H H'→cz H' id vars wh xl c→Bx H0 id xl H' j 13 (Y2 k).cells→H.n≤j→P (.ptr j 0) H') :
  au C K.f54 [.int .i64 k] H fun x1 H2=>aJ (some (be H2 true [.int .i64 0,.int .i64 0,.int .i64 0,.int .i64 0,.int .i64 0,.int .i64 0,.int .u64 0,.int .i64 0,.int .i64 0,.int .i64 0,.int .i64 0,.int .i64 0,.int .i64 0])) fun x3 H4=>Do (aH H4 13 x3 x1) fun H5=>P x3 H5:=by
 refine S.arb hT ?_;unfold S.f54;rw[show bJ [.int .i64 0,.int .i64 0,.int .i64 0,.int .i64 0,.int .i64 0,.int .i64 0,.int .u64 0,.int .i64 0,.int .i64 0,.int .i64 0,.int .i64 0,.int .i64 0,.int .i64 0] [(0,1,.int .i64 k),(1,1,(.int .i64 (-1))),(2,1,(.int .i64 (-1))),(3,1,(.int .i64 (-1))),(4,1,(.int .i64 (-1))),(5,1,(.int .i64 (-1)))]=some (.agg (Y2 k).cells)from rfl];simp only[be,if_true,bw,aa];rw[fC _ _ _ 13 rfl rfl rfl];simp only[aa,jQ];rw[mK (n:=13) rfl];simp only[aa];rw[fC _ _ _ 13 rfl rfl rfl];simp only[aa];have E:=AH.Ext.push H (.row (Y2 k).cells);have h1:=h.ext E;have k1:=k0.trans (KR.ext E);exact hP _ _ ((KR.ext E).trans (KR.ext (AH.Ext.push _ _))) (h1.ext (AH.Ext.push _ _)) (h1.box k1 rfl) (Nat.le_succ _)
theorem rU(h:cz H id vars wh xl c)(hl:c.A.length≤1000000000000)(o:dr)(hQ:∀H',KR id H H'→cz H' id vars wh xl (c.add o)→Q (.aM []) H'):au C K.f56 [.ptr id 0,.agg o.cells] H Q:=by
 refine S.ard hT ?_;unfold S.f56;have hb:bB H true 13 (.agg o.cells)=some (.ptr H.n 0,H.push (.row o.cells)):=by unfold bB;rw[if_pos ⟨rfl,o.len⟩];rfl
 rw[hb];simp only[bw,bR,ab,Nat.zero_add,aa];have b1:=h.box (KR.refl (id:=id)) o.len;have k1:KR id H (H.push (.row o.cells)):=KR.ext (AH.Ext.push _ _);have h1:=h.ext (AH.Ext.push H (.row o.cells));simp only[h1.ln,aa];refine b1.st h1 k1 (by decide) One.int fun H2 k2 h2 b2 _=>?_;have e2:o.cells.set 12 (.int .i64 c.line)=({o with line:=c.line}:dr).cells:=rfl;rw[e2]at b2;obtain⟨xo,xs,a,ho,hs,hd⟩:=h2.x;rw[a.load,show cC (tn vars wh xo xs xl c) 2 1 false=some xo from rfl];simp only[aa,b2.all];rw[show fb H2 false 13 1 [.int .i64 0,.int .i64 0,.int .i64 0,.int .i64 0,.int .i64 0,.int .i64 0,.int .u64 0,.int .i64 0,.int .i64 0,.int .i64 0,.int .i64 0,.int .i64 0,.int .i64 0] [(0,13,.agg ({o with line:=c.line}:dr).cells)]=some (.aq .full 1 ({o with line:=c.line}:dr).cells,H2)from rfl];simp only[bw];refine ho.JD (by have:=a.1;omega) (m:=1) (news:=({o with line:=c.line}:dr).cells) rfl rfl rfl (by decide) (by omega) (by omega) fun H3 RA hn hk=>?_;have kr:∀i ds,At H2 i (.row ds)→At H3 i (.row ds):=fun i ds hi=>hk i _ hi fun l cs e=>by
  subst e;obtain⟨tk,e1,_,e2⟩:=ho;cases e1;rcases e2 with⟨e,_⟩|e|⟨t,e,_,e2⟩
  ·cases e
  ·cases e
  ·cases e;exact absurd (e2.2.symm.trans hi.2) (by intro e;cases e)
 have a3:=kr _ _ a;rw[a3.lp (by show 2<8;decide) ⟨rfl,rfl,rfl⟩];simp only[aa];refine hQ _ (k2.trans (KR.trans ⟨Nat.le_of_lt hn,fun i ds _=>kr i ds⟩ (KR.set _))) ⟨⟨_,xs,a3.set _,?_,?_,fun t l c1 e l2 c2 e2=>?_⟩,(h2.l.aY fun i cs _=>kr i cs).set h2.Lr _,h2.ld,h2.lo⟩
 · have e:(c.add o).A=c.A++[{o with line:=c.line}]:=rfl;rw[e,List.length_append,List.flatMap_append,List.flatMap_singleton];exact RA.frame fun t _ _ h=>h.dq (h.ne a3 (by intro e;cases e)) _
 ·exact hs.aeb fun t l d x y e ht=>(hk t _ ht fun l1 c1 e1=>hd t l1 c1 e1 _ _ e).dq (ht.ne a (by intro e;cases e)) _
 · cases e;obtain⟨tk,e1,_,e3⟩:=hs;rw[e2]at e1;cases e1;rcases e3 with⟨e,_⟩|e|⟨t,e,_,e3⟩
   ·cases e
   ·cases e
   ·cases e;have:=e3.1;omega
end
end Rb

namespace Rb
open Go
theorem cN(n:Nat):((n:Int)+1)=((n+1:Nat):Int):=by simp
theorem acT:∀(L:List (List UInt8×Nat)) (k:Nat) (l:List UInt8×Nat),L[k]?=some l→((L.flatMap sJ).drop (k*2)).take 2=sJ l
 |[],k,l,h=>by simp at h
 | x::r,0,l,h=>by simp at h;subst h;rfl
 | x::r,k+1,l,h=>by have:=acT r k l (by simpa using h);rw[show(k+1)*2=k*2+2 by omega];exact this
def EX(id:Nat)(vars:List aK)(wh xl:AV)(H:AH)(c:LD)(w k:Nat)(Q:ae):Prop:=∀(r:Int)(c':LD)(H':AH),KR id H H'→cz H' id vars wh xl c'→GE c c' w k→fO c'.bK r→Q (.int .i64 r) H'
def EU(id:Nat)(vars:List aK)(wh xl:AV)(H:AH)(c:LD)(w k:Nat)(Q:ae):Prop:=∀(c':LD)(H':AH),KR id H H'→cz H' id vars wh xl c'→GE c c' w k→Q (.aM []) H'
theorem rJ{R S:Nat}{k d d2 a b c n o z r t s l:Int}(h1:1≤k)(h2:k≤18)(hd:fO R d)(tQ:fO R d2)(ha:fO R a)(hb:fO R b)(hc:fO R c)(hs:k<4∨13<k∨(1≤s∧s≤(S:Nat)))(hz:k<4∨7<k∨z=1∨z=2∨z=4∨z=8):pJ R S ⟨k,d,d2,a,b,c,n,o,z,r,t,s,l⟩:=⟨h1,h2,hd,tQ,ha,hb,hc,fun e1 e2=>by have e1:4≤k:=e1;have e2:k≤13:=e2;show 1≤s∧s≤_;omega,fun e1 e2=>by have e1:4≤k:=e1;have e2:k≤7:=e2;show z=1∨z=2∨z=4∨z=8;omega⟩
theorem wJ{k d d2 a b c n o z r t s l:Int}(h:k<14∨16<k):zo ⟨k,d,d2,a,b,c,n,o,z,r,t,s,l⟩:=fun e=>by have e1:14≤k:=e.1;have e2:k≤16:=e.2;omega
theorem eo{R:Nat}:fO R (-1):=fO.none R
theorem sL{R n:Nat}(h:n<R):fO R (n:Int):=⟨by omega,by omega⟩
section
variable{C:Ctx}(aw:dz C)(hT:Cl (au C) S.cH){id:Nat}{vars:List aK}{wh xl:AV}{c:LD}{H0 H:AH}{Q:ae}{w:Nat}
include aw hT
theorem BC(h:cz H id vars wh xl c)(hb:BD c (w+1))(hQ:∀H',KR id H H'→cz H' id vars wh xl {c with bK:=c.bK+1}→Q (.int .i64 (c.bK:Nat)) H'):au C K.f48 [.ptr id 0] H Q:=by
 have hr:=hb.r;refine S.aq6 hT ?_;unfold S.f48;have ew:IntKind.wrap .i64 ((c.bK:Int)+1)=((c.bK+1:Nat):Int):=by rw[wrap_i64 (by omega) (by omega),cN]
 have ew2:IntKind.wrap .i64 (((c.bK+1:Nat):Int)-1)=(c.bK:Int):=by rw[wrap_i64 (by omega) (by omega)];simp
 obtain⟨H1,e1,k1,h1⟩:=h.own (k:=3) (c':={c with bK:=c.bK+1}) (n:=((c.bK+1:Nat):Int)) (.inl ⟨rfl,rfl,Nat.le_succ _,rfl,rfl⟩) rfl rfl rfl rfl;simp only[bR,ab,Nat.zero_add,aa,h.LA,cp,ew,e1,h1.LA,nM,ew2];exact hQ H1 k1 h1
theorem MB(h:cz H id vars wh xl c)(hb:BD c (w+1))(hQ:∀H',KR id H H'→cz H' id vars wh xl {c with labels:=c.labels+1}→Q (.int .i64 ((c.labels+1:Nat):Int)) H'):au C K.f90 [.ptr id 0] H Q:=by
 have hr:=hb.l;refine S.arN hT ?_;unfold S.f90;have ew:IntKind.wrap .i64 ((c.labels:Int)+1)=((c.labels+1:Nat):Int):=by rw[wrap_i64 (by omega) (by omega),cN]
 obtain⟨H1,e1,k1,h1⟩:=h.own (k:=4) (c':={c with labels:=c.labels+1}) (n:=((c.labels+1:Nat):Int)) (.inr (.inl ⟨rfl,rfl,rfl,rfl⟩)) rfl rfl rfl rfl;simp only[bR,ab,Nat.zero_add,aa,h.rI,cp,ew,e1,h1.rI];exact hQ H1 k1 h1
theorem SS(h:cz H id vars wh xl c)(hb:BD c (w+1))(n:Int)(hQ:EX id vars wh xl H c 1 0 Q):au C K.f78 [.ptr id 0,.int .u64 n] H Q:=by refine S.arB hT ?_;unfold S.f78;refine sX aw hT h KR.refl fun j H1 k1 h1 b1 hj=>?_;refine BC aw hT h1 hb fun H2 k2 h2=>?_;have b2:=b1.aY k2;have K2:=k1.trans k2;simp only[ab,Nat.zero_add,aa];refine b2.st h2 K2 (by decide) One.int fun H3 K3 h3 b3 _=>?_;refine b3.st h3 K3 (by decide) One.int fun H4 K4 h4 b4 _=>?_;rw[b4.all];simp only[aa];refine rU aw hT h4 (by have:=hb.A;show c.A.length≤_;omega) ⟨1,c.bK,-1,-1,-1,-1,n,0,0,0,0,0,0⟩ fun H5 k5 h5=>?_;rw[(b4.aY k5).ld (k:=1) rfl];simp only[aa];exact hQ _ _ H5 (K4.trans k5) h5 (GE.S8 (rJ (by decide) (by decide) (sL (Nat.lt_succ_self _)) eo eo eo eo (.inl (by decide)) (.inl (by decide))) (wJ (.inl (by decide)))) (sL (Nat.lt_succ_self _))
theorem IG(h:cz H id vars wh xl c)(hb:BD c (w+1))(op:Int){a b:Int}(ha:fO c.bK a)(iC:fO c.bK b)(hQ:EX id vars wh xl H c 1 0 Q):au C K.f79 [.ptr id 0,.int .i64 op,.int .i64 a,.int .i64 b] H Q:=by refine S.arC hT ?_;unfold S.f79;refine sX aw hT h KR.refl fun j H1 k1 h1 b1 hj=>?_;refine BC aw hT h1 hb fun H2 k2 h2=>?_;have b2:=b1.aY k2;have K2:=k1.trans k2;simp only[ab,Nat.zero_add,aa];refine b2.st h2 K2 (by decide) One.int fun H3 K3 h3 b3 _=>?_;refine b3.st h3 K3 (by decide) One.int fun H4 K4 h4 b4 _=>?_;refine b4.st h4 K4 (by decide) One.int fun H5 K5 h5 b5 _=>?_;refine b5.st h5 K5 (by decide) One.int fun H6 K6 h6 b6 _=>?_;rw[b6.all];simp only[aa];refine rU aw hT h6 (by have:=hb.A;show c.A.length≤_;omega) ⟨3,c.bK,-1,a,b,-1,0,op,0,0,0,0,0⟩ fun H7 k7 h7=>?_;rw[(b6.aY k7).ld (k:=1) rfl];simp only[aa];exact hQ _ _ H7 (K6.trans k7) h7 (GE.S8 (rJ (by decide) (by decide) (sL (Nat.lt_succ_self _)) eo (ha.mono (Nat.le_succ _)) (iC.mono (Nat.le_succ _)) eo (.inl (by decide)) (.inl (by decide))) (wJ (.inl (by decide)))) (sL (Nat.lt_succ_self _))
theorem yB(h:cz H id vars wh xl c)(hb:BD c (w+2))(op n:Int){a:Int}(ha:fO c.bK a)(hQ:EX id vars wh xl H c 2 0 Q):au C K.f87 [.ptr id 0,.int .i64 op,.int .i64 a,.int .u64 n] H Q:=by
 refine S.arK hT ?_;unfold S.f87;have k1:S.U0 (au C) (.ptr id 0) (.int .i64 op) (.int .i64 a) (.int .u64 n) Q [] H:=by unfold S.U0;refine SS aw hT (w:=w+1) h hb n fun r c1 H1 k1 h1 g1 r1=>?_;refine IG aw hT (w:=w) h1 (g1.bd (m:=w+1) (hb.mono (by omega))) op (ha.mono g1.r0) r1 fun r2 c2 H2 k2 h2 g2 r2=>?_;exact hQ _ _ _ (k1.trans k2) h2 (g1.trans g2) r2
 have k2:∀b:Bool,S.BZ (au C) (.ptr id 0) (.int .i64 op) (.int .i64 a) (.int .u64 n) Q [.bool b] H:=fun b=>by unfold S.BZ;simp only[aA,aD,aG];exact aN (fun _=>hQ _ _ _ KR.refl h ((GE.refl c).mono (Nat.zero_le _) (Nat.le_refl _)) ha) (fun _=>k1)
 simp only[cn,aa,ck,cj,aG]
 repeat' first|exact k2 _|refine aN (fun _=>?_) (fun _=>?_)
theorem Hn(h:cz H id vars wh xl c)(hb:BD c (w+2)){s:ec}{b al:Int}(ha:fO c.bK b)(hQ:EX id vars wh xl H c 2 0 Q):au C K.f85 [.ptr id 0,.agg (s.cells++[.int .i64 b,.int .i64 al])] H Q:=by
 refine S.arI hT ?_;unfold S.f85;have KM:bB H false 8 (.agg (s.cells++[.int .i64 b,.int .i64 al]))=some (.av (s.cells++[.int .i64 b,.int .i64 al]),H):=rfl;have l6:J H 1 false (.av [.int .i64 b,.int .i64 al])=some (.int .i64 b):=rfl;have l0:J H 1 false (.av (s.cells++[.int .i64 b,.int .i64 al]))=some (.int .i64 s.at_):=rfl;rw[KM];simp only[bw,show ab 6 (.av (s.cells++[.int .i64 b,.int .i64 al]))=some (.av [.int .i64 b,.int .i64 al])from rfl,show ab 0 (.av (s.cells++[.int .i64 b,.int .i64 al]))=some (.av (s.cells++[.int .i64 b,.int .i64 al]))from rfl,aa,l6,l0,cn,aD,vg];refine aN (fun _=>?_) (fun _=>?_)
 ·exact SS aw hT (w:=w+1) h hb _ fun r c1 H1 k1 h1 g1 r1=>hQ _ _ _ k1 h1 (g1.mono (by decide) (Nat.le_refl _)) r1
 ·exact yB aw hT h hb _ _ ha hQ
theorem TW{n:Int}(hn:0≤n)(hQ:∀v,Q (.int .u64 v) H):au C K.f88 [.int .i64 n] H Q:=by refine S.arL hT ?_;unfold S.f88;simp only[kG,aa,aD];refine aN (fun _=>hQ _) (fun _=>?_);rw[aaW _ _ _ _ hn];simp only[aa,nM];exact hQ _
theorem PN(h:cz H id vars wh xl c)(hb:BD c (w+1)){a b:Int}(ha:fO c.bK a)(iC:fO c.bK b)(hQ:EU id vars wh xl H c 1 0 Q):au C K.f49 [.ptr id 0,.int .i64 a,.int .i64 b] H Q:=by
 refine S.aq7 hT ?_;unfold S.f49;refine sX aw hT h KR.refl fun j H1 K1 h1 b1 hj=>?_;simp only[ab,Nat.zero_add,aa];refine b1.st h1 K1 (by decide) One.int fun H3 K3 h3 b3 _=>?_;refine b3.st h3 K3 (by decide) One.int fun H4 K4 h4 b4 _=>?_;rw[b4.all];simp only[aa];exact rU aw hT h4 (by have:=hb.A;omega) ⟨2,a,-1,b,-1,-1,0,0,0,0,0,0,0⟩ fun H5 k5 h5=>hQ _ H5 (K4.trans k5) h5 (GE.add (rJ (by decide) (by decide) ha eo iC eo eo (.inl (by decide)) (.inl (by decide))) (wJ (.inl (by decide))))
theorem NC(h:cz H id vars wh xl c)(hb:BD c (w+1))(t:Int)(hQ:∀H',KR id H H'→cz H' id vars wh xl (c.add ⟨14,-1,-1,-1,-1,-1,0,0,0,0,t,0,0⟩)→Q (.aM []) H'):au C K.f92 [.ptr id 0,.int .i64 t] H Q:=by refine S.arP hT ?_;unfold S.f92;refine sX aw hT h KR.refl fun j H1 K1 h1 b1 hj=>?_;simp only[ab,Nat.zero_add,aa];refine b1.st h1 K1 (by decide) One.int fun H3 K3 h3 b3 _=>?_;rw[b3.all];simp only[aa];exact rU aw hT h3 (by have:=hb.A;omega) ⟨14,-1,-1,-1,-1,-1,0,0,0,0,t,0,0⟩ fun H5 k5 h5=>hQ H5 (K3.trans k5) h5
theorem NB(h:cz H id vars wh xl c)(hb:BD c (w+1))(t:Int){r:Int}(hr:fO c.bK r)(hQ:∀o H',KR id H H'→o.fB=t→(o.kind=15∨o.kind=16)→pJ c.bK c.sn o→cz H' id vars wh xl (c.add o)→Q (.aM []) H'):au C K.f91 [.ptr id 0,.int .i64 t,.int .i64 r] H Q:=by
 refine S.arO hT ?_;unfold S.f91;refine sX aw hT h KR.refl fun j H1 K1 h1 b1 hj=>?_;simp only[ab,Nat.zero_add,aa,eK,aD,aG];refine aN (fun _=>?_) (fun _=>?_)
 · refine b1.st h1 K1 (by decide) One.int fun H3 K3 h3 b3 _=>?_;refine b3.st h3 K3 (by decide) One.int fun H4 K4 h4 b4 _=>?_;unfold S.PG;simp only[ab,Nat.zero_add,aa];refine b4.st h4 K4 (by decide) One.int fun H5 K5 h5 b5 _=>?_;rw[b5.all];simp only[aa];exact rU aw hT h5 (by have:=hb.A;omega) ⟨16,-1,-1,r,-1,-1,0,0,0,0,t,0,0⟩ fun H6 k6 h6=>hQ _ H6 (K5.trans k6) rfl (.inr rfl) (rJ (by decide) (by decide) eo eo hr eo eo (.inr (.inl (by decide))) (.inr (.inl (by decide)))) h6
 · unfold S.PG;simp only[ab,Nat.zero_add,aa];refine b1.st h1 K1 (by decide) One.int fun H5 K5 h5 b5 _=>?_;rw[b5.all];simp only[aa];exact rU aw hT h5 (by have:=hb.A;omega) ⟨15,-1,-1,-1,-1,-1,0,0,0,0,t,0,0⟩ fun H6 k6 h6=>hQ _ H6 (K5.trans k6) rfl (.inl rfl) (rJ (by decide) (by decide) eo eo eo eo eo (.inr (.inl (by decide))) (.inr (.inl (by decide)))) h6
theorem abe(h:cz H id vars wh xl c)(hb:BD c (w+1))(k o:Int){a1 a2:AV}(uT:a1.scalar=true)(sy:a2.scalar=true)(hQ:∀H' c',KR id H H'→cz H' id vars wh xl c'→GE c c' 1 1→c'.bK=c.bK→c'.sn=c.sn+1→Q (.int .i64 ((c.sn+1:Nat):Int)) H'):au C K.f55 [.ptr id 0,.int .i64 k,.int .i64 o,.agg [a1,a2]] H Q:=by
 have hs:=hb.s;refine S.arc hT ?_;unfold S.f55;obtain⟨xo,xs,a,h1,h2,h3⟩:=h.x;have e5:J H 1 false (.ptr id 5)=some xs:=by rw[a.load];rfl
 have ha:J H 2 true (.av [a1,a2])=some (.agg [a1,a2]):=rfl;rw[show bB H false 2 (.agg [a1,a2])=some (.av [a1,a2],H)from rfl];simp only[bw,bR,ab,Nat.zero_add,aa,h.ln,e5,ha];rw[show bJ [.int .i64 0,.int .i64 0,.int .i64 0,.str [],.aq .nil 0 []] [(0,1,.int .i64 k),(1,1,.int .i64 o),(2,1,.int .i64 c.line),(3,2,.agg [a1,a2])]=some (.agg (.int .i64 k :: .int .i64 o :: .int .i64 c.line::[a1,a2]))from rfl];simp only[aa];rw[show fb H false 5 1 [.int .i64 0,.int .i64 0,.int .i64 0,.str [],.aq .nil 0 []] [(0,5,.agg (.int .i64 k :: .int .i64 o :: .int .i64 c.line::[a1,a2]))]=some (.aq .full 1 (.int .i64 k :: .int .i64 o :: .int .i64 c.line::[a1,a2]),H)from rfl];simp only[bw];refine h2.JD (by have:=a.1;omega) (m:=1) (news:= .int .i64 k :: .int .i64 o :: .int .i64 c.line::[a1,a2]) rfl rfl (by show(true&&(true&&(true&&(a1.scalar&&(a2.scalar&&true)))))=true;rw[uT,sy];rfl) (by decide) (by omega) (by omega) fun H3 La hn hk=>?_;have kr:∀i ds,At H i (.row ds)→At H3 i (.row ds):=fun i ds hi=>hk i _ hi fun l cs e=>by
  subst e;obtain⟨tk,e1,_,e2⟩:=h2;cases e1;rcases e2 with⟨e,_⟩|e|⟨t,e,_,e2⟩
  ·cases e
  ·cases e
  ·cases e;exact absurd (e2.2.symm.trans hi.2) (by intro e;cases e)
 have a3:=kr _ _ a;rw[a3.lp (by show 5<8;decide) ⟨rfl,rfl,rfl⟩];simp only[aa];have a4:=a3.set (.row ((tn vars wh xo xs xl c).set 5 (.aq (.own H.n) (c.sn+1) (c.sc++(.int .i64 k :: .int .i64 o :: .int .i64 c.line::[a1,a2])))));rw[a4.load,show cC ((tn vars wh xo xs xl c).set 5 (.aq (.own H.n) (c.sn+1) (c.sc++(.int .i64 k :: .int .i64 o :: .int .i64 c.line::[a1,a2])))) 5 1 false=some (.aq (.own H.n) (c.sn+1) (c.sc++(.int .i64 k :: .int .i64 o :: .int .i64 c.line::[a1,a2])))from rfl];simp only[aa,show ∀(tk:Tok)(n:Nat)(cs:List AV),br false (.aq tk n cs)=some (.int .i64 n)from fun _ _ _=>rfl];refine hQ _ {c with sn:=c.sn+1,sc:=c.sc++(.int .i64 k :: .int .i64 o :: .int .i64 c.line::[a1,a2])} (KR.trans ⟨Nat.le_of_lt hn,fun i ds _=>kr i ds⟩ (KR.set _)) ⟨⟨xo,_,a4,?_,La.frame fun t _ _ h=>h.dq (h.ne a3 (by intro e;cases e)) _,fun t l c1 e l2 c2 e2=>?_⟩,(h.l.aY fun i cs _=>kr i cs).set h.Lr _,h.ld,h.lo⟩
  ⟨⟨[],(List.append_nil _).symm,Nat.zero_le _,fun _ ho=>by cases ho⟩,Nat.le_refl _,Nat.le_succ _,Nat.le_succ _,Nat.le_refl _,Nat.le_refl _,rfl,rfl,rfl⟩ rfl rfl
 ·exact h1.aeb fun t l d x y e ht=>(hk t _ ht fun l1 c1 e1=>h3 t l d e _ _ e1).dq (ht.ne a (by intro e;cases e)) _
 · cases e2;obtain⟨tk,e1,_,e3⟩:=h1;rw[e]at e1;cases e1;rcases e3 with⟨e,_⟩|e|⟨t,e,_,e3⟩
   ·cases e
   ·cases e
   ·cases e;have:=e3.1;omega
theorem HQ(h:cz H id vars wh xl c)(hb:BD c (w+1))(k o:Int)(x:aT)(hQ:∀H' c',KR id H H'→cz H' id vars wh xl c'→GE c c' 1 1→c'.bK=c.bK→c'.sn=c.sn+1→Q (.int .i64 ((c.sn+1:Nat):Int)) H'):au C K.f55 [.ptr id 0,.int .i64 k,.int .i64 o,.agg x.cells] H Q:=by rw[aT.bf];exact abe aw hT h hb k o rfl rfl hQ
theorem NA(h:cz H id vars wh xl c)(hb:BD c w){name:List UInt8}(hn:name∈c.L.map Prod.fst)(hQ:∀r:Int,fO c.bK r→Q (.int .i64 r) H):au C K.f50 [.ptr id 0,.str name] H Q:=by
 have Rp:=hb.L;refine S.aq8 hT ?_;unfold S.f50;have hbx:bB H false 1 (.str name)=some (.av [.str name],H):=rfl;simp only[hbx,bw,bR,ab,Nat.zero_add,h.lcs,aa];refine S.arF hT ?_;unfold S.f82;simp only[h.l.len,aa];have main:∀(r:List (List UInt8×Nat)) (k:Nat),c.L.drop k=r→name∈r.map Prod.fst →
   aB (S.UZ (au C) xl (.fn K.f83 [.av [.str name]]) (.int .i64 c.L.length) (fun x6 H7=>Do (J H7 1 false (.ptr id 7)) fun bQ=>Do (bj none 2 bQ x6) fun bH=>Do (ab 1 bH) fun bc=>Do (J H7 1 false bc) fun bu=>Q bu H7)) ([.int .i64 k],H):=by
  intro r;induction r with
  |nil=>intro k hd he;simp at he
  | cons l r ih=>
   intro k hd he;obtain⟨hk,hx,bC⟩:=eX hd;obtain⟨j,cs,j1,j2,j3,j4,j5⟩:=h.l.addr hk;have fA:=acT c.L k l hx;rw[←j4,List.drop_take,List.take_take,Nat.min_eq_left (by omega)]at fA;refine aB.step ?_;simp only[S.UZ,aA,bF,aa,aD];rw[if_pos (by simp only[decide_eq_true_eq];omega)];simp only[j3,aa,j2.load];rw[show cC cs (k*2) 2 true=some (.agg (sJ l)) by unfold cC;rw[if_pos (by omega),if_pos rfl,fA]];simp only[aa];refine⟨K.f83,[.av [.str name]],rfl,?_⟩;rw[SM rfl,Sr rfl];show au C K.f83 [.agg (sJ l),.av [.str name]] H _;refine S.arG hT ?_;unfold S.f83;have jv:bB H false 2 (.agg (sJ l))=some (.av (sJ l),H):=by unfold bB;rw[if_pos ⟨rfl,rfl⟩];rfl
   have l0:J H 1 false (.av (List.drop 0 (sJ l)))=some (.str l.1):=rfl;have l1:J H 1 false (.av [.str name])=some (.str name):=rfl;simp only[jv,bw,ab,aa,l0,l1,lq,aD];refine aN (fun e=>?_) (fun e=>?_)
   · simp only[h.lcs,aa,j3,ab,j2.load];rw [show cC cs (k*2+1) 1 false=some (.int .i64 (l.2:Nat)) by
       have:cs[k*2+1]?=some (.int .i64 (l.2:Nat)):=by rw[←List.getElem?_drop,←List.getElem?_take_of_lt (show 1<2 by decide),fA];rfl
       unfold cC;rw[if_pos (by omega),if_neg (by decide),this]]
     simp only[aa];exact hQ _ (sL (h.lo l (List.mem_of_getElem? hx)))
   · simp only[cp,aa];rw[wrap_i64 (by omega) (by omega),cN];refine ih (k+1) bC ?_;rcases List.mem_cons.1 he with he|he
     ·exact absurd (by simp[←he]) e
     ·exact he
 exact main c.L 0 rfl hn
end
end Rb

namespace Rb
open Go
def P2(r:Int):Prop:=r=1∨r=2∨r=4∨r=8∨r=16
def P8(r:Int):Prop:=r=1∨r=2∨r=4∨r=8
theorem P2.pos{r:Int}(h:P2 r):1≤r∧r≤16:=by unfold P2 at h;omega
theorem P2.half{r:Int}(h:P2 r)(h1:1<r):P2 (r/2)∧r/2<r∧ai .quo (.int .i64 r) (.int .i64 2)=some (.int .i64 (r/2)):=by
 rcases h with rfl|rfl|rfl|rfl|rfl
 ·omega
 all_goals exact⟨by unfold P2;omega,by omega,by rw[wQ _ _ _ (by decide)];rfl⟩
theorem P2.ind{P:Int→Prop}(h:∀r,P2 r→(1<r→P (r/2))→P r):∀r,P2 r→P r:=by have p1:=h 1 (.inl rfl) (fun e=>absurd e (by decide));have p2:=h 2 (.inr (.inl rfl)) (fun _=>p1);have p4:=h 4 (.inr (.inr (.inl rfl))) (fun _=>p2);have p8:=h 8 (.inr (.inr (.inr (.inl rfl)))) (fun _=>p4);have p16:=h 16 (.inr (.inr (.inr (.inr rfl)))) (fun _=>p8);intro r hr;rcases hr with rfl|rfl|rfl|rfl|rfl<;>assumption
def i_(p:Int×Int):List AV:=[.int .i64 p.1,.int .i64 p.2]
def Pcs(x:AV)(l:List (Int×Int)):Prop:=∃tk,x = .aq tk l.length (l.flatMap i_)
section
variable{C:Ctx}(aw:dz C)(hT:Cl (au C) S.cH){H:AH}{Q:ae}
include aw hT
theorem Vb{n m:Int}(hm:P2 m)(hQ:∀r,P2 r→r≤m→Q (.int .i64 r) H):au C K.f113 [.int .i64 n,.int .i64 m] H Q:=by
 refine S.aoJ hT ?_;unfold S.f113;have main:∀r,P2 r→(r≤m→aB (S.MW (au C) (.int .i64 n) Q) ([.int .i64 r],H)):=by
  refine P2.ind fun r hr ih hle=>aB.step ?_;simp only[S.MW,aA,eY,aa,ck,aG];have k2:∀b:Bool,(b=true→1<r)→S.MV (au C) ([.int .i64 r],H) (aB (S.MW (au C) (.int .i64 n) Q)) Q [.bool b] H:=fun b hb=>by unfold S.MV;simp only[aA,aD,aG];refine aN (fun e=>?_) (fun _=>hQ r hr hle);unfold S.abV;obtain⟨_,h2,h3⟩:=hr.half (hb e);simp only[aA,h3,aa];exact ih (hb e) (by omega)
  refine aN (fun e=>?_) (fun e=>k2 false (fun e=>by cases e));rw[vi _ _ _ (by have:=hr.pos;omega)];simp only[aa,eK];exact k2 _ fun _=>by simpa using e
 exact main m hm (Int.le_refl _)
theorem anS{at_ len : Int}(hl : len≤16)(hQ:∀l x H',AH.Ext H H'→Pcs x l→(∀p∈l,P8 p.2)→l.length≤16→Q x H'):au C K.f128 [.agg [.int .i64 at_,.int .i64 len]] H Q:=by
 refine S.aoV hT ?_;unfold S.f128;have axY:∀H',AH.Ext H H'→Q (.aq .nil 0 []) H':=fun H' E=>hQ [] _ H' E ⟨.nil,rfl⟩ (fun p hp=>by cases hp) (Nat.zero_le _);have hb:bB H true 2 (.agg [.int .i64 at_,.int .i64 len])=some (.ptr H.n 0,H.push (.row [.int .i64 at_,.int .i64 len])):=rfl;rw[hb];simp only[bw];have E1:=AH.Ext.push H (.row [.int .i64 at_,.int .i64 len]);have r1:=At.new H (.row [.int .i64 at_,.int .i64 len]);rw[r1.all (n:=2) rfl];simp only[aa];generalize H.push (.row [.int .i64 at_,.int .i64 len])=H1 at *;have l0:J H1 1 false (.ptr H.n 0)=some (.int .i64 at_):=by rw[r1.load];rfl
 have l1:J H1 1 false (.ptr H.n 1)=some (.int .i64 len):=by rw[r1.load];rfl
 have loop : ∀ (n : Nat) (a len : Int) (x:AV) (l:List (Int×Int)) (H2:AH),len.toNat=n→AH.Ext H H2→At H2 H.n (.row [.int .i64 a,.int .i64 len])→len≤16→cU H.n H2 2 x l.length (l.flatMap i_)→(∀p∈l,P8 p.2)→(l.length:Int)+len.toNat≤16→aB (S.D7 (au C) (.ptr H.n 0) Q) ([x],H2):=by
  intro n;induction n using Nat.strongRecOn with
  | _ n ih =>
   intro a len x l H2 hn E2 r2 Dp hx hp hc;have m0:J H2 1 false (.ptr H.n 0)=some (.int .i64 a):=by rw[r2.load];rfl
   have m1:J H2 1 false (.ptr H.n 1)=some (.int .i64 len):=by rw[r2.load];rfl
   refine aB.step ?_;simp only[S.D7,ab,Nat.zero_add,m1,aa,eY,aD,aA];refine aN (fun e=>?_) (fun e=>?_)
   · have Cz : 0 < len := by simpa using e
     have inner : ∀ r, P2 r → (r ≤ 8→aB (S.Nd (au C) (.ptr H.n 0) ([x],H2) (aB (S.D7 (au C) (.ptr H.n 0) Q)) Q) ([.int .i64 r],H2)):=by
      refine P2.ind fun r hr YC hle=>aB.step ?_;simp only[S.Nd,ab,Nat.zero_add,m0,m1,aa,eY,cj,aG,aA];have k3:∀b:Bool,(b=true→1<r)→(b=false→r≤len)→S.Nb (au C) (.ptr H.n 0) ([x],H2) (aB (S.D7 (au C) (.ptr H.n 0) Q)) ([.int .i64 r],H2) (aB (S.Nd (au C) (.ptr H.n 0) ([x],H2) (aB (S.D7 (au C) (.ptr H.n 0) Q)) Q)) Q [.bool b] H2:=fun b hb jv=>by
       unfold S.Nb;simp only[aA,aD,aG];refine aN (fun e=>?_) (fun e=>?_)
       · unfold S.abZ;obtain⟨_,h2,h3⟩:=hr.half (hb e);simp only[aA,h3,aa];exact YC (hb e) (by omega)
       · have hrl:=jv (by simpa using e);have K0:P8 r:=by unfold P2 at hr;unfold P8;omega
         unfold S.ab0;simp only[aA,ab,Nat.zero_add,m0,aa];rw[show bJ [.int .i64 0,.int .i64 0] [(0,1,.int .i64 a),(1,1,.int .i64 r)]=some (.agg (i_ (a,r)))from rfl];simp only[aa];rw[show fb H2 false 2 1 [.int .i64 0,.int .i64 0] [(0,2,.agg (i_ (a,r)))]=some (.aq .full 1 (i_ (a,r)),H2)from rfl];simp only[bw];refine hx.app E2.1 (m:=1) (news:=i_ (a,r)) rfl rfl rfl (by decide) (by omega) (by omega) fun x3 H3 RL lf=>?_;have r3:=lf.row r2;have E3:AH.Ext H H3:=⟨Nat.le_trans E2.1 lf.1,fun i hi=>((lf.2 i (H2.o i) ⟨Nat.lt_of_lt_of_le hi E2.1,rfl⟩ (.inl hi)).2).trans (E2.2 i hi)⟩
         have m3:J H3 1 false (.ptr H.n 0)=some (.int .i64 a):=by rw[r3.load];rfl
         simp only[m3,aa,cp];rw[r3.lp (by show 0<2;decide) One.int];have r4:=r3.set (.row ([.int .i64 a,.int .i64 len].set 0 (.int .i64 (IntKind.wrap .i64 (a+r)))));have E4:=E3.set (Nat.le_refl _) (.row ([.int .i64 a,.int .i64 len].set 0 (.int .i64 (IntKind.wrap .i64 (a+r)))));have hx4:=RL.frame (H':=H3.set H.n (.row ([.int .i64 a,.int .i64 len].set 0 (.int .i64 (IntKind.wrap .i64 (a+r)))))) (fun t _ _ h=>h.dq (h.ne r3 (by intro e;cases e)) _);simp only[aa];generalize H3.set H.n (.row ([.int .i64 a,.int .i64 len].set 0 (.int .i64 (IntKind.wrap .i64 (a+r)))))=H4 at *;have m4:J H4 1 false (.ptr H.n 1)=some (.int .i64 len):=by rw[r4.load];rfl
         simp only[m4,aa,nM];rw[wrap_i64 (n:=len-r) (by have:=hr.pos;omega) (by have:=hr.pos;omega),r4.lp (by show 1<2;decide) One.int];simp only[aa];refine ih (len-r).toNat (by have:=hr.pos;omega) (IntKind.wrap .i64 (a+r)) (len-r) x3 (l++[(a,r)]) _ rfl (E4.set (Nat.le_refl _) _) (r4.set _) (by have:=hr.pos;omega) ?_ (fun p j_=>?_) (by have:=hr.pos;rw[List.length_append,List.length_singleton];omega)
         · rw[List.length_append,List.flatMap_append,List.flatMap_singleton];exact hx4.frame fun t _ _ h=>h.dq (h.ne r4 (by intro e;cases e)) _
         · rcases List.mem_append.1 j_ with h|h
           ·exact hp p h
           ·rw[List.mem_singleton.1 h];exact K0
      refine gG (fun e=>?_) (fun e=>?_)
      · have e':r≤len:=by simpa using e
        rw[vi _ _ _ (by have:=hr.pos;omega)];simp only[aa,eK];refine k3 _ (fun e1=>?_) (fun _=>e');have:=hr.pos;by_cases h1:r=1
        ·subst h1;simp at e1
        ·omega
      · exact k3 true (fun _ => by have:len<r:=by simpa using e
                                   omega) (fun e=>by cases e)
     exact inner 8 (.inr (.inr (.inr (.inl rfl)))) (Int.le_refl _)
   · obtain⟨tk,hxe,_⟩:=hx;exact hQ l x H2 E2 ⟨tk,hxe⟩ hp (by omega)
 have k6:S.TC (au C) (.ptr H.n 0) Q [] H1:=by
  unfold S.TC;by_cases h0:0≤len
  ·exact loop len.toNat at_ len _ [] H1 rfl E1 r1 hl (cU.nil _ _ _) (fun p hp=>by cases hp) (by simp;omega)
  ·exact loop len.toNat at_ len _ [] H1 rfl E1 r1 hl (cU.nil _ _ _) (fun p hp=>by cases hp) (by simp;omega)
 have k7:∀b:Bool,S.Nc (au C) (.ptr H.n 0) Q [.bool b] H1:=fun b=>by unfold S.Nc;simp only[aA,aD,aG];exact aN (fun _=>axY H1 E1) (fun _=>k6)
 have k8:∀b:Bool,S.D6 (au C) (.ptr H.n 0) Q [.bool b] H1:=fun b=>by unfold S.D6;simp only[aA,cj,aG,ab,Nat.zero_add,l0,l1,aa,cp,eY];exact aN (fun _=>k7 _) (fun _=>k7 _)
 have snd:∀b:Bool,Do (eB .not (.bool b)) fun bc=>aL bc false (Do (ab 1 (.ptr H.n 0)) fun bu=>Do (J H1 1 false bu) fun bN=>Do (ai .gtr bN (.int .i64 64)) fun bG=>ak (S.D6 (au C) (.ptr H.n 0) Q) [bG] H1) (ak (S.D6 (au C) (.ptr H.n 0) Q) [.bool true] H1) False:=fun b=>by simp only[gk,aa,cj,ab,Nat.zero_add,l1,eY,aG];exact aN (fun _=>k8 _) (fun _=>k8 _)
 refine S.aoY hT ?_;unfold S.f133;have jv:bB H1 false 2 (.agg [.int .i64 at_,.int .i64 len])=some (.av [.int .i64 at_,.int .i64 len],H1):=rfl;have s0:J H1 1 false (.av [.int .i64 at_,.int .i64 len])=some (.int .i64 at_):=rfl;have s1:J H1 1 false (.av [.int .i64 len])=some (.int .i64 len):=rfl;rw[jv];simp only[bw,show ab 0 (.av [.int .i64 at_,.int .i64 len])=some (.av [.int .i64 at_,.int .i64 len])from rfl,show ab 1 (.av [.int .i64 at_,.int .i64 len])=some (.av [.int .i64 len])from rfl,aa,s0,s1,kG,mL,ck,aG,S.TF,S.TE,aA]
 repeat' first|exact snd _|refine aN (fun _=>?_) (fun _=>?_)
end
end Rb

namespace Rb
open Go
theorem VK{tk:Tok}{l:List (Int×Int)}{i:Nat}{p:Int×Int}(h:l[i]?=some p)(H:AH):∃a,bj none 2 (.aq tk l.length (l.flatMap i_)) (.int .i64 i)=some a∧J H 2 true a=some (.agg (i_ p)):=⟨_,d_ (cells:=i_) (List.getElem?_eq_some_iff.1 h).1,gO (cells:=i_) (fun _=>rfl) (by decide) H h⟩
theorem Left.ext{n0:Nat}{H0 H H':AH}(hn:H0.n=n0)(E:AH.Ext H0 H)(lf:Left n0 H H'):AH.Ext H0 H':=⟨Nat.le_trans E.1 lf.1,fun i hi=>((lf.2 i (H.o i) ⟨Nat.lt_of_lt_of_le hi E.1,rfl⟩ (.inl (by omega))).2).trans (E.2 i hi)⟩
def fX(s:ec)(b al:Int):List AV:=s.cells++[.int .i64 b,.int .i64 al]
section
variable{s:ec}{b al:Int}
theorem Vg(H:AH):bB H false 8 (.agg (fX s b al))=some (.av (fX s b al),H):=rfl
theorem Qw:ab 0 (.av (fX s b al))=some (.av (fX s b al)):=rfl
theorem avM(H:AH):J H 1 false (.av (fX s b al))=some (.int .i64 s.at_):=rfl
theorem avO(H:AH):J H 2 true (.av (fX s b al))=some (.agg [.int .i64 s.at_,.int .i64 s.len]):=rfl
theorem afP(H:AH):J H 8 true (.av (fX s b al))=some (.agg (fX s b al)):=rfl
theorem avJ(H:AH):∃p,ab 1 (.av (fX s b al))=some p∧∀H:AH,J H 1 false p=some (.int .i64 s.len):=⟨_,rfl,fun _=>rfl⟩
theorem avK(H:AH):∃p,ab 6 (.av (fX s b al))=some p∧∀H:AH,J H 1 false p=some (.int .i64 b):=⟨_,rfl,fun _=>rfl⟩
theorem avL(H:AH):∃p,ab 7 (.av (fX s b al))=some p∧∀H:AH,J H 1 false p=some (.int .i64 al):=⟨_,rfl,fun _=>rfl⟩
end
section
variable{C:Ctx}(aw:dz C)(hT:Cl (au C) S.cH){H:AH}{Q:ae}
include aw hT
theorem aaG{s : ec}{b al : Int}(eQ:P2 al)(hl:s.len≤16)(hQ:∀l x H',AH.Ext H H'→Pcs x l→(∀p∈l,P8 p.2)→l.length≤16→Q x H'):au C K.f114 [.agg (fX s b al)] H Q:=by
 refine S.aoK hT ?_;unfold S.f114;obtain⟨p1,f1,g1⟩:=avJ (s:=s) (b:=b) (al:=al) H;obtain⟨p6,f6,g6⟩:=avK (s:=s) (b:=b) (al:=al) H;obtain⟨p7,f7,g7⟩:=avL (s:=s) (b:=b) (al:=al) H;simp only[Vg,bw,f6,g6,aa,cn,aD,Qw,avO];refine aN (fun _=>?_) (fun _=>?_)
 · refine anS aw hT hl fun l x H1 E1 hx hp hc=>?_;obtain⟨tk,rfl⟩:=hx;simp only[show br false (.aq tk l.length (l.flatMap i_))=some (.int .i64 l.length)from rfl,aa];have main:∀(r:List (Int×Int)) (i:Nat) (H2:AH) (y:AV) (d:List (Int×Int)),l.drop i=r→d.length=i→i≤l.length→AH.Ext H H2→cU H.n H2 2 y d.length (d.flatMap i_)→(∀p∈d,P8 p.2) →
     aB (S.MX (au C) (.av (fX s b al)) (.aq tk l.length (l.flatMap i_)) (.int .i64 l.length) Q) ([y,.int .i64 i],H2):=by
    intro r;induction r with
    | nil=>intro i H2 y d hd he rE E2 hy u5;have hle:=fe hd;refine aB.step ?_;simp only[S.MX,aA,cv,bF,aa,aD];rw[if_neg (by simp only[decide_eq_true_eq];omega)];obtain⟨LM,e,_⟩:=hy;exact hQ d y H2 E2 ⟨LM,e⟩ u5 (by omega)
    | cons p r ih=>
     intro i H2 y d hd he rE E2 hy u5;obtain⟨aO,hx,bC⟩:=eX hd;obtain⟨a,e1,e2⟩:=VK (tk:=tk) hx H2;refine aB.step ?_;simp only[S.MX,aA,cv,bF,aa,aD];rw[if_pos (by simp only[decide_eq_true_eq];omega)];simp only[e1,e2,aa,bw,be,if_true];rw[fC _ _ _ 2 rfl rfl rfl];have r3:=At.new H2 (.row (i_ p));have E3:=E2.trans (AH.Ext.push H2 (.row (i_ p)));have hy3:=hy.frame (H':=H2.push (.row (i_ p))) (fun t _ _ h=>h.push _);generalize H2.push (.row (i_ p))=H3 at *;have m0:J H3 1 false (.ptr H2.n 0)=some (.int .i64 p.1):=by rw[r3.load];rfl
     have m1:J H3 1 false (.ptr H2.n 1)=some (.int .i64 p.2):=by rw[r3.load];rfl
     simp only[aa,show ∀k:Nat,ab k (.ptr H2.n 0)=some (.ptr H2.n (0+k))from fun _=>rfl,Nat.zero_add,m0,m1,Qw,avM,nM];rw[show bJ [.int .i64 0,.int .i64 0] [(0,1,.int .i64 (IntKind.wrap .i64 (p.1-s.at_))),(1,1,.int .i64 p.2)]=some (.agg (i_ (IntKind.wrap .i64 (p.1-s.at_),p.2)))from rfl];simp only[aa];rw[show fb H3 false 2 1 [.int .i64 0,.int .i64 0] [(0,2,.agg (i_ (IntKind.wrap .i64 (p.1-s.at_),p.2)))]=some (.aq .full 1 (i_ (IntKind.wrap .i64 (p.1-s.at_),p.2)),H3)from rfl];simp only[bw];refine hy3.app E3.1 (m:=1) (news:=i_ (IntKind.wrap .i64 (p.1-s.at_),p.2)) rfl rfl rfl (by decide) (by omega) (by omega) fun y4 H4 Yw lf=>?_;simp only[cp,aa];rw[wrap_i64 (by omega) (by omega),cN];refine ih (i+1) H4 y4 (d++[(IntKind.wrap .i64 (p.1-s.at_),p.2)]) bC (by simp[he]) (by omega) (lf.ext rfl E3) ?_ (fun q hq=>?_)
     ·rw[List.length_append,List.flatMap_append,List.flatMap_singleton];exact Yw
     · rcases List.mem_append.1 hq with h|h
       ·exact u5 q h
       ·rw[List.mem_singleton.1 h];exact hp p (List.mem_of_getElem? hx)
   exact main l 0 H1 _ [] rfl rfl (Nat.zero_le _) E1 (cU.nil _ _ _) (fun p hp=>by cases hp)
 · have loop : ∀ (n : Nat) (a : Int) (y:AV) (d:List (Int×Int)) (H2:AH),(s.len-a).toNat=n→0≤a→a≤16→AH.Ext H H2→cU H.n H2 2 y d.length (d.flatMap i_)→(∀p∈d,P8 p.2)→(d.length:Int)≤a →
       aB (S.MY (au C) (.av (fX s b al)) Q) ([y,.int .i64 a],H2):=by
     intro n;induction n using Nat.strongRecOn with
     | _ n ih =>
      intro a y d H2 hn h0 wj E2 hy u5 hda;refine aB.step ?_;simp only[S.MY,Qw,f1,g1,f7,g7,aa,bF,aD,aA,cv];refine aN (fun e=>?_) (fun e=>?_)
      · have Cz : a < s.len := by simpa using e
        obtain ⟨m,hm,hm8,em⟩:∃m,P2 m∧m≤8∧oY false [.int .i64 al,.int .i64 8]=some (.int .i64 m):=by
         rcases eQ with rfl|rfl|rfl|rfl|rfl
         ·exact⟨1,.inl rfl,by decide,rfl⟩
         ·exact⟨2,.inr (.inl rfl),by decide,rfl⟩
         ·exact⟨4,.inr (.inr (.inl rfl)),by decide,rfl⟩
         ·exact⟨8,.inr (.inr (.inr (.inl rfl))),by decide,rfl⟩
         ·exact⟨8,.inr (.inr (.inr (.inl rfl))),by decide,rfl⟩
        simp only[em,aa];refine Vb aw hT hm fun r hr hrm=>?_;have inner : ∀ r, P2 r → (r≤8→aB (S.Ts (au C) (.av (fX s b al)) ([y,.int .i64 a],H2) (aB (S.MY (au C) (.av (fX s b al)) Q)) Q) ([.int .i64 r],H2)):=by
         refine P2.ind fun r hr YC hle=>aB.step ?_;simp only[S.Ts,Qw,f1,g1,aa,nM,eY,aD,aA,cv,aG];rw[wrap_i64 (by omega) (by omega)];refine aN (fun e=>?_) (fun e=>?_)
         · have h1 : 1 < r := by have:s.len-a<r:=by simpa using e
                                 omega
           obtain⟨_,h2,h3⟩:=hr.half h1;rw[h3];simp only[aa];exact YC h1 (by omega)
         · have hrl:r≤s.len-a:=by simpa using e
           have kD:=hr.pos;have K0:P8 r:=by unfold P2 at hr;unfold P8;omega
           unfold S.abW;simp only[aA,cv];rw[show bJ [.int .i64 0,.int .i64 0] [(0,1,.int .i64 a),(1,1,.int .i64 r)]=some (.agg (i_ (a,r)))from rfl];simp only[aa];rw[show fb H2 false 2 1 [.int .i64 0,.int .i64 0] [(0,2,.agg (i_ (a,r)))]=some (.aq .full 1 (i_ (a,r)),H2)from rfl];simp only[bw];refine hy.app E2.1 (m:=1) (news:=i_ (a,r)) rfl rfl rfl (by decide) (by omega) (by omega) fun y4 H4 Yw lf=>?_;simp only[cp,aa];rw[wrap_i64 (by omega) (by omega)];refine ih (s.len-(a+r)).toNat (by omega) (a+r) y4 (d++[(a,r)]) H4 rfl (by omega) (by omega) (lf.ext rfl E2) ?_ (fun q hq=>?_) (by rw[List.length_append,List.length_singleton];omega)
           ·rw[List.length_append,List.flatMap_append,List.flatMap_singleton];exact Yw
           · rcases List.mem_append.1 hq with h|h
             ·exact u5 q h
             ·rw[List.mem_singleton.1 h];exact K0
        exact inner r hr (by omega)
      · obtain⟨LM,e,_⟩:=hy;exact hQ d y H2 E2 ⟨LM,e⟩ u5 (by omega)
   exact loop _ 0 _ [] H rfl (Int.le_refl _) (by decide) (AH.Ext.refl _) (cU.nil _ _ _) (fun p hp=>by cases hp) (by decide)
end
end Rb
