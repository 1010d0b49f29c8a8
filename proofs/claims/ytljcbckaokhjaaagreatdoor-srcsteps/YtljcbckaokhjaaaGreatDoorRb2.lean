/- A part of the proof (part 2): see the last text. -/
import Derived.Test.YtljcbckaokhjaaaGreatDoorRb1
import Derived.Carry
import Derived.OpenVars
import Derived.OpenShut
import Derived.ProofKit
import Derived.ChangeOld
import Derived.KernelRfl
set_option linter.unusedVariables false
set_option linter.unusedSimpArgs false
open Bool renaming and_eq_true→ZL, eq_iff_iff→abE, xor→ab7
open Go.Calls renaming mono→abw
open Go.DataW renaming TrodAll→ab3
open List renaming all_cons→ab4, getD_eq_getElem?_getD→aaW, map_map→ab9, replicate→Gd
open Nat renaming beq→ab5, ble→ab_, blt→ab8, eq_of_beq_eq_true→acb, le_of_ble_eq_true→aca, lt_succ_self→ab6
open Option renaming some→ZW
open Bool renaming false→ab0, true→abZ
open Option renaming none→ab2, some→ab1
noncomputable section
namespace Rb
open Go Go.RowKit
variable{w:World}{fz:Nat->Nat->Prop}
def O.mt:O:={n:=0,o:=λ_=> .gone}
def ch.mt(fz:Nat->Nat->Prop):ch:={n:=0,loc:=λ_=>0,cap:=λ_=>0,fz:=fz}
theorem Rel.mt{F:el}(h:∀b o,fz b o->∃V,w.cell? ⟨b,o,ab2⟩=ab1 V):Rel F w (ch.mt fz) O.mt:=⟨rfl,λ_ _=>rfl,λ_=>trivial,λ_ _ _ h _=>(by cases h),h⟩
theorem Step.below{w R:World}{G':ch}{H':O}(h:Step w (ch.mt fz) O.mt R G' H'):Below w.heap.size w R:=⟨h.os,h.tape,h.output,h.size,λk hk=>h.eN k hk λi hl=>by cases hl⟩
section
variable{H:Type}{enc:TypeId×Value->H}{P:Program}
def ug(P:Program)(ts:List TypeId):Bool:=ts.all λt=>P.readableRec t&&decide (t<P.types.size)
theorem E5(hl:laidOutB P=abZ){W a:World}(c:Below W.heap.size W a) :
  ∀{ts:List TypeId}{vs:List Value}{ds:List (DataW H)}{ps:List MemPlace},ug P ts=abZ->ab3 enc P W 0 (λ_=>abZ) abZ ts vs ds ps->ab3 enc P a 0 (λb=>decide (b<W.heap.size)) abZ ts vs ds ps
 |[],[],[],_,_,h=>h
 | t::ts,v::vs,d::ds,ps,ht,h=>by have e:=h.lt;obtain⟨p,q,U,f,rfl⟩:=h;simp only[ug,ab4,ZL,du]at ht;exact⟨p,q,Below.trod hl ht.1.1 ht.1.2 U c (λx g=>e x (by simp[g])),E5 hl c (by simpa[ug]using ht.2) f,rfl⟩
 |[],[],_::_,_,_,h=>h.elim
 |[],_::_,_,_,_,h=>by cases ‹List (DataW H)› <;> exact h.elim
 |_::_,[],_,_,_,h=>by cases ‹List (DataW H)› <;> exact h.elim
 |_::_,_::_,[],_,_,h=>h.elim
theorem Pr{f:Func}{s:ChangeSpec}{e:Bool}{W g:World}{args:Array Value}{a b:List (DataW H)}{j:List MemPlace}{bt:TypeId}
  (i:DataW.Whole enc P f.params.toList s.vars e W args.toList a b j) (hl:laidOutB P=abZ) (ht:ug P f.params.toList=abZ) (hv:varsRowed P s.vars=abZ)
  (k:f.resultTypes = #[bt]) (l:P.underlying bt=ab1 .bool) (c:s.fn H (a++b)={results:=[.lit (.bool abZ)],args:=a,vars:=b}) (d:Below W.heap.size W g) :
  s.post enc P f e abZ ab0 ab0 W args (.bool abZ) g:=by
 have m:=i;obtain⟨p,q,n,o,rfl,r,hn⟩:=i;refine⟨a,b,p++q,[],p,q,m,?_,?_,?_,d.frame _,λh=>by cases h⟩
 . rw[c,k];exact⟨[],[],shut_bool l _,rfl,rfl⟩
 . rw[c];exact E5 hl d ht n
 . rw[c];exact d.trodVars hl hv o
end
end Rb
namespace Rb
open Go
def E6:List I:=(List.range 256).map λi=> .int .u8 (if i=9\/i=10\/i=11\/i=12\/i=13\/i=32 then 1 else 0)
def qT:List Int:=[0,1,56,2,57,49,28,3,61,58,42,50,38,29,17,4,62,47,59,36,45,43,51,22,53,39,33,30,24,18,12,5,63,55,48,27,60,41,37,16,46,35,44,21,52,32,23,11,54,26,40,15,34,20,31,10,25,14,19,9,13,8,7,6]
def E7:List I:=qT.map (I.int .u8)
inductive TT where
 |leaf
 |node (x:c0) (l r:TT)
def TT.get:TT->Nat->c0
 | .leaf,_=> .gone
 | .node x l r,i=>bif ab5 i 0 then x else bif ab5 (i%2) 1 then l.get (i/2)else r.get (i/2-1)
def TT.k2(x:c0):Nat->TT->Nat->TT
 |0,t,_=>t
 | f+1,t,i=>match t with
  | .leaf=>bif ab5 i 0 then .node x .leaf .leaf else bif ab5 (i%2) 1 then .node .gone (TT.k2 x f .leaf (i/2)) .leaf else .node .gone .leaf (TT.k2 x f .leaf (i/2-1))
  | .node a l r=>bif ab5 i 0 then .node x l r else bif ab5 (i%2) 1 then .node a (TT.k2 x f l (i/2)) r else .node a l (TT.k2 x f r (i/2-1))
theorem TT.E8(i:Nat):TT.get .leaf i = .gone:=rfl
theorem TT.n_(x:c0)(l r:TT)(i:Nat):(TT.node x l r).get i=if i=0 then x else if i%2=1 then l.get (i/2)else r.get (i/2-1):=by
 have c:∀a b:Nat,ab5 a b=decide (a=b):=λa b=>by rw[abE];simp
 simp only[TT.get,c,cond_eq_ite,du]
theorem TT.E9(x:c0):∀(f:Nat)(t:TT)(i j:Nat),i<f->(TT.k2 x f t i).get j=if j=i then x else t.get j:=by
 intro f;induction f with
 |zero=>intro t i j h;omega
 | succ f g=>
  intro t i j h;have k:∀a b:Nat,ab5 a b=decide (a=b):=λa b=>by rw[abE];simp
  have key : ∀(a:c0)(l r:TT),(if i=0 then TT.node x l r else if i%2=1 then .node a (TT.k2 x f l (i/2)) r else .node a l (TT.k2 x f r (i/2-1))).get j=if j=i then x else(TT.node a l r).get j:=by
   intro a l r;by_cases hi:i=0
   . subst hi;rw[aa rfl,TT.n_,TT.n_];by_cases c:j=0
     ·simp[c]
     ·simp[c]
   . rw [ad hi];by_cases ho:i%2=1
     . rw [aa ho,TT.n_,TT.n_];rw[g _ _ _ (by omega)];by_cases c:j=0
       ·rw[aa c,aa c,bg]
       . rw [ad c,ad c];by_cases d:j%2=1
         . rw[aa d,aa d];by_cases e:j=i
           ·rw[aa e,aa (by rw[e])]
           ·rw[ad e,bg]
         ·rw[ad d,ad d,bg]
     . rw [ad ho,TT.n_,TT.n_];rw[g _ _ _ (by omega)];by_cases c:j=0
       ·rw[aa c,aa c,bg]
       . rw [ad c,ad c];by_cases d:j%2=1
         ·rw[aa d,aa d,bg]
         . rw[ad d,ad d];by_cases e:j=i
           ·rw[aa e,aa (by rw[e])]
           ·rw[ad e,bg]
  cases t with
  | leaf=>simp only[TT.k2,k,cond_eq_ite,du];rw[key .gone .leaf .leaf,TT.n_,TT.E8];simp only[TT.E8,ite_self]
  | node a l r=>simp only[TT.k2,k,cond_eq_ite,du];exact key a l r
structure TH where
 n:Nat
 t:TT
def TH.ah(T:TH):O:=⟨T.n,λi=>T.t.get i⟩
def TH.set(T:TH)(i:Nat)(x:c0):TH:=match T with|⟨n,t⟩=>⟨n,TT.k2 x (i+1) t i⟩
def TH.push(T:TH)(x:c0):TH:=match T with|⟨n,t⟩=>⟨n+1,TT.k2 x (n+1) t n⟩
def TH.mt:TH:=⟨0,.leaf⟩
@[simp] theorem TH.Zx (T:TH):T.ah.n=T.n:=rfl
@[simp] theorem TH.Zy (T:TH) (i:Nat) (x:c0):(T.set i x).ah=T.ah.set i x:=by simp only[TH.ah,TH.set,O.set];congr 1;funext j;exact TT.E9 x _ _ _ _ (ab6 _)
@[simp] theorem TH.Zz (T:TH) (x:c0):(T.push x).ah=T.ah.push x:=by simp only[TH.ah,TH.push,O.push];congr 1;funext j;exact TT.E9 x _ _ _ _ (ab6 _)
@[simp] theorem TH.Ps:TH.mt.ah=O.mt:=by simp only[TH.ah,TH.mt,O.mt];congr 1
abbrev ng:=I->TH->Bool
abbrev fG:=Nat->List I->TH->ng->Bool
def fO{α:Type}(x:Option α)(K:α->Bool):Bool:=
 match x with
 |some a=>K a
 |none=>ab0
def k3(x:Option (I×TH))(K:ng):Bool:=
 match x with
 |some (v,T)=>K v T
 |none=>ab0
def uh(v:I)(a:Bool)(A B:Bool):Bool:=
 match v with
 | .bool b=>bif ab7 b a then B else A
 |_=>ab0
def Af(T:TH)(n:Nat)(x v:I):Option TH:=
 match x with
 | .ptr id o=>
  match T.t.get id with
  | .row cs=>if v.known/\v.cells.length=n/\v.cells.all I.scalar/\o+n<=cs.length then ab1 (T.set id (.row (setCells cs o v.cells)))else ab2
  |_=>ab2
 |_=>ab2
def qU(T:TH)(mu:Bool)(cells:List I):I×TH:=if mu then(.ptr T.n 0,T.push (.row cells))else(.ak cells,T)
def Ag(T:TH)(mu:Bool)(n:Nat)(v:I):Option (I×TH):=if v.known/\v.cells.length=n then ab1 (qU T mu v.cells)else ab2
def Ah(T:TH)(mu:Bool)(sz len:Nat)(a:List I)(b:List (Nat×Nat×I)):Option (I×TH):=
 (jX (Gd len a).flatten b).map λcells=>if mu then(.row T.n 0 len sz,T.push (.row cells))else(.aj .full len cells,T)
def Ai(T:TH)(mu:Bool)(sz b:Nat)(x y:I):Option (I×TH):=
 match fh T.ah sz y with
 |none=>ab2
 | some (m,news)=>
  if ¬news.all I.scalar then ab2 else
  match x with
  | .aj tk len cells=>
   if m=0 then ab1 (.aj tk len cells,T)
   else if ¬(cells.length=len*sz/\(len+m)*b<=140737488355328/\len+m<=9223372036854775807)then ab2
   else match tk,mu with
   | .nil,abZ | .full,abZ=>ab1 (.row T.n 0 (len+m) sz,T.push (.row (cells++news)))
   | .nil,ab0 | .full,ab0=>ab1 (.aj (.own T.n) (len+m) (cells++news),T.push (.tok ((len+m)*sz) sz))
   | .own t,_=>match T.t.get t with
    | .tok k a=>if k=len*sz/\a=sz then ab1 (.aj (.own T.n) (len+m) (cells++news),(T.set t .gone).push (.tok ((len+m)*sz) sz))else ab2
    |_=>ab2
   | .dead,_=>ab2
  | .row id o len a=>
   match T.t.get id with
   | .row cs=>
    if m=0 then ab1 (.row id o len a,T)
    else if ¬(o=0/\a=sz/\(len+m)*b<=140737488355328/\len+m<=9223372036854775807)then ab2
    else if(len+m)*sz<=cs.length then ab1 (.row id 0 (len+m) sz,T.set id (.row (setCells cs (len*sz) news)))
    else if cs.length=len*sz then ab1 (.row T.n 0 (len+m) sz,(T.set id .gone).push (.row (cs++news)))
    else ab2
   |_=>ab2
  |_=>ab2
def Aj(T:TH)(x:I):Option (I×TH):=
 match x with
 | .str s=>ab1 (.ptr T.n 0,T.push (.hX s 0))
 |_=>ab2
def Ak(T:TH)(x:I):Option (I×TH):=
 match x with
 | .ptr id 0=>
  match T.t.get id with
  | .hX s pos=>
   if pos<s.length then
    let d:=Utf8.decode ⟨s.toArray⟩ pos
    ab1 (.aH [.bool abZ,.int .i64 pos,.int .i32 d.1],T.set id (.hX s (pos+d.2)))
   else ab1 (.aH [.bool ab0],T)
  |_=>ab2
 |_=>ab2
def ui(T:TH)(mu:Bool)(sz b:Nat)(a:List I)(len cap:I):Option (I×TH):=
 match len,cap with
 | .int .i64 n,.int .i64 c=>
  if 0<=n/\n<=c/\b*c<=281474976710656/\c<=9223372036854775807/\a.length=sz then
   if mu then ab1 (.row T.n 0 n.toNat sz,T.push (.row (Gd c.toNat a).flatten))
   else if n=c then ab1 (.aj .full n.toNat (Gd n.toNat a).flatten,T)else ab2
  else ab2
 |_,_=>ab2
def Al(T:TH)(sz:Nat)(x y:I):Option (I×TH):=
 match x,fh T.ah sz y with
 | .row id o len _,ab1 (m,news)=>
  match T.t.get id with
  | .row cs=>
   let n:=min m len
   if news.all I.scalar/\o+n*sz<=cs.length then ab1 (.int .i64 n,T.set id (.row (setCells cs o (news.take (n*sz)))))else ab2
  |_=>ab2
 |_,_=>ab2
def uj(T:TH)(x:I):Option (I×TH):=
 match x with
 | .row id o len sz=>
  match T.t.get id with
  | .row cs=>if o+len*sz<=cs.length then ab1 (.aj .dead len ((cs.drop o).take (len*sz)),T.set id .gone)else ab2
  |_=>ab2
 | .ptr id o=>
  match T.t.get id with
  | .row cs=>ab1 (.ak (cs.drop o),T.set id .gone)
  |_=>ab2
 | .aj tk len cells=>ab1 (.aj tk len cells,T)
 | .ak cs=>ab1 (.ak cs,T)
 | .agg cells=>ab1 (.agg cells,T)
 |_=>ab2
def text(T:TH)(e:Ext)(xs:List I):Option (I×TH):=
 match e,xs with
 |_,_=>ab2
def vh(r:I×TH):I×O:=(r.1,r.2.ah)
theorem Pt(T:TH)(e:Ext)(xs:List I):(text T e xs).map vh=zE T.ah e xs:=by
 have ho:∀i,T.ah.o i=T.t.get i:=λ_=>rfl;cases e with
 |stuck=>cases xs<;>rfl
theorem Pu(T:TH)(n:Nat)(x v:I):(Af T n x v).map TH.ah=bZ T.ah n x v:=by
 unfold Af bZ;cases x<;>try rfl
 dsimp only;show _=match T.t.get _ with | .row cs=>_|_=>_
 split
 ·split<;>simp
 ·rfl
theorem E_(T:TH)(mu:Bool)(cells:List I):vh (qU T mu cells)=bx T.ah mu cells:=by unfold qU bx vh;split<;>simp
theorem Pv(T:TH)(mu:Bool)(n:Nat)(v:I):(Ag T mu n v).map vh=cg T.ah mu n v:=by
 unfold Ag cg;split
 ·simp[E_]
 ·rfl
theorem Pw(T:TH)(mu:Bool)(sz len:Nat)(a:List I)(parts:List (Nat×Nat×I)):(Ah T mu sz len a parts).map vh=cU T.ah mu sz len a parts:=by unfold Ah cU;rw[Option.map_map];congr 1;funext cells;simp only[Function.comp,vh];split<;>simp
theorem Px(T:TH)(mu:Bool)(sz a:Nat)(x y:I):(Ai T mu sz a x y).map vh=cI T.ah mu sz a x y:=by
 unfold Ai cI;have ho:∀i,T.ah.o i=T.t.get i:=λ_=>rfl;simp only[ho];cases b:fh T.ah sz y with
 |none=>rfl
 | some p =>
  obtain⟨m,news⟩:=p;dsimp only;by_cases hs:news.all I.scalar=abZ
  . simp only [hs,not_true_eq_false,cc];cases x<;>try rfl
    . rename_i tk len cells;dsimp only;by_cases hm:m=0
      ·simp only[aa hm];rfl
      . simp only[ad hm];by_cases hc:¬(cells.length=len*sz/\(len+m)*a<=140737488355328/\len+m<=9223372036854775807)
        ·simp only[aa hc];rfl
        . simp only[ad hc];cases tk<;>cases mu<;>try (simp[vh];done)
          all_goals
           rename_i t;dsimp only;cases ht:T.t.get t<;>try rfl
           dsimp only;split<;>simp[vh]
    . rename_i id o len c;dsimp only;cases ht:T.t.get id<;>try rfl
      dsimp only;split
      ·rfl
      . split
        ·rfl
        . split
          ·simp[vh]
          ·split<;>simp[vh]
  ·simp only[hs,not_false_eq_true,aQ];rfl
theorem Py(T:TH)(x:I):(Aj T x).map vh=nU T.ah x:=by unfold Aj nU;cases x<;>simp[vh]
theorem Pz(T:TH)(x:I):(Ak T x).map vh=lz T.ah x:=by
 have ho:∀i,T.ah.o i=T.t.get i:=λ_=>rfl;cases x<;>try rfl
 rename_i id off;cases off with
 |succ k=>rfl
 | zero=>
  simp only[Ak,lz,ho];cases ht:T.t.get id<;>try rfl
  dsimp only;split<;>simp[vh]
theorem PA(T:TH)(mu:Bool)(sz a:Nat)(b:List I)(len cap:I):(ui T mu sz a b len cap).map vh=hp T.ah mu sz a b len cap:=by
 have go:∀n c:Int,(ui T mu sz a b (.int .i64 n) (.int .i64 c)).map vh=hp T.ah mu sz a b (.int .i64 n) (.int .i64 c):=by
  intro n c;simp only[ui,hp];by_cases h:0<=n/\n<=c/\a*c<=281474976710656/\c<=9223372036854775807/\b.length=sz
  . simp only[aa h];by_cases hm:mu=abZ
    ·simp only[aa hm];simp[vh]
    . simp only[ad hm];by_cases hn:n=c
      ·simp only[aa hn];rfl
      ·simp only[ad hn];rfl
  ·simp only[ad h];rfl
 cases len<;>try rfl
 rename_i k n;cases k<;>try rfl
 cases cap<;>try rfl
 rename_i k c;cases k<;>try rfl
 exact go n c
theorem PB(T:TH)(sz:Nat)(x y:I):(Al T sz x y).map vh=m7 T.ah sz x y:=by
 have ho:∀i,T.ah.o i=T.t.get i:=λ_=>rfl;unfold Al m7;cases a:fh T.ah sz y with
 |none=>cases x<;>rfl
 | some p=>
  cases x<;>try rfl
  rename_i id o len b;simp only[ho];cases ht:T.t.get id<;>try rfl
  dsimp only;split<;>simp[vh]
theorem PC(T:TH)(x:I):(uj T x).map vh=lA T.ah x:=by
 have ho:∀i,T.ah.o i=T.t.get i:=λ_=>rfl;cases x<;>try rfl
 . rename_i id o;simp only[uj,lA,ho];cases ht:T.t.get id<;>simp[vh]
 . rename_i id o len sz;simp only[uj,lA,ho];cases ht:T.t.get id<;>try rfl
   dsimp only;split<;>simp[vh]
variable{n:Nat}{env:Env}{Φ:Z}{H:O}{ops:List cz}{o:cz}
noncomputable section
abbrev EV:=List (Nat×I)
def gf(E:EV)(t:Nat):I:=List.rec (motive:=λ_=>I) .bot (λp _ a=>cond (ab5 p.1 t) p.2 a) E
def gg(n:Nat)(E:EV)(t:Nat)(v:I):EV:=cond (ab8 t n) ((t,v)::E) E
def gV(n:Nat)(E:EV)(d:Option Nat)(v:I):EV:=
 match d with
 |some t=>gg n E t v
 |none=>E
theorem PD(a b:Nat):ab5 a b=decide (a=b):=by rw[abE];simp
theorem PE(a b:Nat):ab8 a b=decide (a<b):=by rw[abE];simp[ab8];omega
theorem Fa(t:Nat)(v:I)(E:EV)(i:Nat):gf ((t,v)::E) i=if t=i then v else gf E i:=by show cond (ab5 t i) v (gf E i)=_;rw[PD,cond_eq_ite];simp
def eZ(n:Nat)(E:EV)(env:Env):Prop:=env.length=n/\∀i,gf E i=env.getD i .bot
theorem eZ.set{E:EV}(h:eZ n E env)(t:Nat)(v:I):eZ n (gg n E t v) (env.set t v):=by
 refine⟨by simp[h.1],λi=>?_⟩;unfold gg;rw[PE,cond_eq_ite];by_cases ht:t<n
 . rw[aa (by simpa using ht),Fa,aaW,List.getElem?_set];by_cases e:t=i
   ·rw[aa e,aa e,aa (by rw[h.1];exact ht)];rfl
   ·rw[ad e,ad e,<-aaW];exact h.2 i
 . rw[ad (by simpa using ht),List.set_eq_of_length_le (by rw[h.1];omega)];exact h.2 i
theorem eZ.cH{E:EV}(h:eZ n E env)(d:Option Nat)(v:I):eZ n (gV n E d v) (Rb.cH env d v):=by
 cases d with
 |none=>exact h
 |some t=>exact h.set t v
def oa:List I->Nat->EV
 |[],_=>[]
 |a::r,i=>(i,a)::oa r (i+1)
theorem Fb:∀(b:List I)(i j:Nat),gf (oa b i) j=if j<i then .bot else b.getD (j-i) .bot
 |[],i,j=>by simp[oa,gf]
 | a :: r,i,j=>by
  rw[oa,Fa,Fb r (i+1) j];by_cases h:i=j
  ·subst h;simp
  . rw[ad h];by_cases c:j<i
    ·rw[cX,aa c]
    ·rw[bg,ad c,show j-i=(j-(i+1))+1 by omega];simp
def b7.sub(E:EV):b7->b7
 | .t n=> .k (gf E n)
 | .k v=> .k v
theorem Am{E:EV}(h:eZ n E env)(x:b7):(x.sub E).ev []=x.ev env:=by
 cases x with
 |t i=>exact h.2 i
 |k v=>rfl
def e_.sub(E:EV):e_->e_
 | .mv x=> .mv (x.sub E)
 | .pick c a b=> .pick (c.sub E) (a.sub E) (b.sub E)
 | .bin op x y=> .bin op (x.sub E) (y.sub E)
 | .beq neg x y=> .beq neg (x.sub E) (y.sub E)
 | .kk k neg x=> .kk k neg (x.sub E)
 | .jI neg ks x y=> .jI neg ks (x.sub E) (y.sub E)
 | .un op x=> .un op (x.sub E)
 | .conv k x=> .conv k (x.sub E)
 | .same x=> .same (x.sub E)
 | .kM x=> .kM (x.sub E)
 | .field off sz agg x=> .field off sz agg (x.sub E)
 | .idx l sz agg x i=> .idx l sz agg (x.sub E) (i.sub E)
 | .idxs x i=> .idxs (x.sub E) (i.sub E)
 | .kN off x=> .kN off (x.sub E)
 | .kl arr sz x i=> .kl arr sz (x.sub E) (i.sub E)
 | .slice sz x lo hi mx=> .slice sz (x.sub E) (lo.map (b7.sub E)) (hi.map (b7.sub E)) (mx.map (b7.sub E))
 | .kO x lo hi=> .kO (x.sub E) (lo.map (b7.sub E)) (hi.map (b7.sub E))
 | .iN t x=> .iN t (x.sub E)
 | .ij key cB=> .ij key (cB.map (b7.sub E))
 | .extract i x=> .extract i (x.sub E)
 | .build zero parts=> .build zero (parts.map λp=>(p.1,p.2.1,p.2.2.sub E))
 | .len str x=> .len str (x.sub E)
 | .iO n=> .iO n
 | .iP mx xs=> .iP mx (xs.map (b7.sub E))
 | .load n agg x=> .load n agg (x.sub E)
 | .store n x v=> .store n (x.sub E) (v.sub E)
 | .box mu n x=> .box mu n (x.sub E)
 | .alloc mu zero=> .alloc mu zero
 | .ik mu sz l zero parts=> .ik mu sz l zero (parts.map λp=>(p.1,p.2.1,p.2.2.sub E))
 | .append mu sz bytes x y=> .append mu sz bytes (x.sub E) (y.sub E)
 | .make mu sz bytes zero l c=> .make mu sz bytes zero (l.sub E) (c.sub E)
 | .copy sz x y=> .copy sz (x.sub E) (y.sub E)
 | .kP x=> .kP (x.sub E)
 | .jg x=> .jg (x.sub E)
 | .jh x=> .jh (x.sub E)
 | .ji x=> .ji (x.sub E)
 | .call key args=> .call key (args.map (b7.sub E))
 | .jj f args=> .jj (f.sub E) (args.map (b7.sub E))
 | .ext e xs=> .ext e (xs.map (b7.sub E))
theorem uk{E:EV}(h:eZ n E env){K:ab}(op:e_):cW Φ [] H K (op.sub E)=cW Φ env H K op:=by
 have U:=Am h;have hl:∀xs:List b7,gC [] (xs.map (b7.sub E))=gC env xs:=λxs=>by simp only[gC,ab9];congr 1;funext x;exact U x
 have a:∀xs:List (Nat×Nat×b7),hq [] (xs.map λp=>(p.1,p.2.1,p.2.2.sub E))=hq env xs:=λxs=>by simp only[hq,ab9];congr 1;funext x;simp[U]
 have ho:∀x:Option b7,(x.map (b7.sub E)).map (b7.ev [])=x.map (b7.ev env):=λx=>by cases x<;>simp[U]
 cases op<;>simp only[e_.sub,cW,U,hl,a,ho]
abbrev ku:=EV->O->Prop
def kv(Φ:Z)(n:Nat):List cz->EV->O->ku->Prop
 |[],E,H,K=>K E H
 | o :: r,E,H,K=>
  match o.guard with
  |none=>cW Φ [] H (λv H'=>kv Φ n r (gV n E o.dst v) H' K) (o.op.sub E)
  | some (s,want)=>
   u (gf E s) want (cW Φ [] H (λv H'=>kv Φ n r (gV n (gg n E s (.bool want)) o.dst v) H' K) (o.op.sub (gg n E s (.bool want))))
    (kv Φ n r (gV n (gg n E s (.bool !want)) o.dst (.aH [])) H K) (kv Φ n r (gV n (gg n E s (.aH [])) o.dst (.aH [])) H K)
theorem u.imp{v:I}{b:Bool}{A B C c d e:Prop}(f:A->c)(g:B->d)(i:C->e)(h:u v b A B C):u v b c d e:=by
 unfold u at *;split at h
 . split at h
   ·rename_i a;simp[a,f h]
   ·rename_i a;simp[a,g h]
 ·exact i h
 ·exact h.elim
theorem Fe(d:ko Φ):∀{l:List cz}{E:EV}{env:Env}{H:O}{K:ku}{Q:Env->O->Prop},eZ n E env->kv Φ n l E H K->(∀e bw H',eZ n e bw->K e H'->Q bw H')->jk Φ l env H Q:=by
 intro l;induction l with
 |nil=>intro E env H K Q a h b;exact b _ _ _ a h
 | cons o r c=>
  intro E env H K Q a h b;simp only[kv]at h;simp only[jk];cases f:o.guard with
  | none=>rw[f]at h;dsimp only at h ⊢;rw[uk a]at h;exact pa d (λv H' h=>c (a.cH _ _) h b) h
  | some g=>obtain⟨s,want⟩:=g;rw[f]at h;dsimp only at h ⊢;rw[a.2 s,uk (a.set s _)]at h;exact u.imp (pa d λv H' h=>c ((a.set _ _).cH _ _) h b) (λh=>c ((a.set _ _).cH _ _) h b) (λh=>c ((a.set _ _).cH _ _) h b) h
def po(Φ:Z)(n:Nat)(o:cz)(E:EV)(H:O)(K:ku):Prop:=
 match o.guard with
 |none=>cW Φ [] H (λv H'=>K (gV n E o.dst v) H') (o.op.sub E)
 | some (s,want)=>
  u (gf E s) want (cW Φ [] H (λv H'=>K (gV n (gg n E s (.bool want)) o.dst v) H') (o.op.sub (gg n E s (.bool want))))
   (K (gV n (gg n E s (.bool !want)) o.dst (.aH [])) H) (K (gV n (gg n E s (.aH [])) o.dst (.aH [])) H)
theorem Ff(c:ko Φ){E:EV}{K:ku}{Q:Env->O->Prop}(a:eZ n E env)(h:po Φ n o E H K)(b:∀d bw H',eZ n d bw->K d H'->Q bw H'):kQ Φ o env H Q:=by
 unfold po at h;unfold kQ;cases e:o.guard with
 | none=>rw[e]at h;dsimp only at h ⊢;rw[uk a]at h;exact pa c (λv H' h=>b _ _ _ (a.cH _ _) h) h
 | some g=>obtain⟨s,want⟩:=g;rw[e]at h;dsimp only at h ⊢;rw[a.2 s,uk (a.set s _)]at h;exact u.imp (pa c λv H' h=>b _ _ _ ((a.set _ _).cH _ _) h) (λh=>b _ _ _ ((a.set _ _).cH _ _) h) (λh=>b _ _ _ ((a.set _ _).cH _ _) h) h
def nh(Φ:Z)(n:Nat)(ops:List cz):List Nat->EV->O->ku->Prop
 |[],E,H,K=>K E H
 | i::r,E,H,K=>match ops[i]? with
  |some o=>po Φ n o E H λa H'=>nh Φ n ops r a H' K
  |none=>False
theorem Fg(d:ko Φ):∀{l:List Nat}{E:EV}{env:Env}{H:O}{K:ku}{Q:Env->O->Prop},eZ n E env->nh Φ n ops l E H K->(∀a bw H',eZ n a bw->K a H'->Q bw H')->lD Φ ops l env H Q:=by
 intro l;induction l with
 |nil=>intro E env H K Q b h c;exact c _ _ _ b h
 | cons i r e=>
  intro E env H K Q b h c;simp only[nh]at h;simp only[lD];split at h
  . rename_i o ho;rw[ho];exact Ff d b h λa bw H' f g=>e f g c
  ·exact h.elim
def pq(E:EV)(H:O)(o:cz):Prop:=
 match o.op with
 | .load n agg x=>af H n agg ((x.sub E).ev [])=ab1 (gf E (o.dst.getD 0))
 | .jg x=>abstr H ((x.sub E).ev [])=ab1 (gf E (o.dst.getD 0))
 |_=>True
def qV(E:EV)(H:O)(o:cz):Prop:=
 match o.guard with
 |none=>pq E H o
 |some (s,want)=>gf E s = .bool want->pq E H o
theorem PF{E:EV}(a:eZ n E env)(h:qV E H o):qH env H o:=by
 have U:=Am a;have fin:pq E H o->oZ env H o:=by unfold pq oZ;intro h;cases ho:o.op<;>rw[ho]at h<;>dsimp only at h ⊢ <;> (try rw[U]at h)<;>(try rw[U]at h)<;>(try rw[a.2]at h)<;>exact h
 unfold qV at h;unfold qH;cases b:o.guard with
 |none=>rw[b]at h;exact fin h
 | some g=>obtain⟨s,want⟩:=g;rw[b]at h;dsimp only at h ⊢;rw[a.2]at h;exact λhs=>fin (h hs)
def um(ops:List cz)(E:EV)(H:O)(X:Prop):List Nat->Prop
 |[]=>X
 |l::r=>(match ops[l]? with|some o=>qV E H o|none=>True)/\um ops E H X r
theorem PG{E:EV}(a:eZ n E env){X Y:Prop}(b:X->Y):∀{l:List Nat},um ops E H X l->hr ops env H Y l:=by
 intro l;induction l with
 |nil=>intro h;exact b h
 | cons i r c=>
  intro h;refine⟨?_,c h.2⟩;have U:=h.1;cases ho:ops[i]? with
  |none=>trivial
  |some o=>rw[ho]at U;exact PF a U
def pt(Φ:Z)(n:Nat)(ops:List cz)(a:List Nat):List (List Nat×Nat×List Nat)->EV->O->ku->Prop
 |[],E,H,K=>nh Φ n ops a E H K
 | (d,e,st)::r,E,H,K=>nh Φ n ops d E H λb H1=>match ops[e]? with
  |some o=>po Φ n o b H1 λf c=>um ops b c (pt Φ n ops a r f c K) st
  |none=>False
theorem PH(a:ko Φ){d:List Nat}:∀{cf:List (List Nat×Nat×List Nat)}{E:EV}{env:Env}{H:O}{K:ku}{Q:Env->O->Prop},eZ n E env->pt Φ n ops d cf E H K->(∀f bw H',eZ n f bw->K f H'->Q bw H')->jY Φ ops d cf env H Q:=by
 intro cf;induction cf with
 |nil=>intro E env H K Q b h c;exact Fg a b h c
 | cons p r i=>
  obtain⟨l,e,st⟩:=p;intro E env H K Q b h c;simp only[pt]at h;simp only[jY];refine Fg a b h λm e1 H1 g U=>?_;cases ho:ops[e]? with
  |none=>rw[ho]at U;exact U.elim
  | some o=>rw[ho]at U;exact Ff a g U λq s t j k=>PG g (λh=>i j h c) k
def jq(E:EV)(vs:List Nat):List I:=vs.map λt=>gf E t
def kx(n:Nat)(E:EV):List Nat->EV
 |[]=>E
 |t::r=>kx n (gg n E t .bot) r
def ky(n:Nat)(E:EV):List Nat->List I->EV
 |t::r,s=>ky n (gg n E t (s.headD .bot)) r s.tail
 |[],_=>E
theorem eZ.gL{E:EV}(h:eZ n E env)(vs:List Nat):jq E vs=Rb.gL env vs:=by simp only[jq,Rb.gL];congr 1;funext t;exact h.2 t
theorem eZ.hL{n:Nat}:∀(ks:List Nat){E:EV}{env:Env},eZ n E env->eZ n (kx n E ks) (Rb.hL env ks)
 |[],_,_,h=>h
 |t::r,_,_,h=>eZ.hL r (h.set t _)
theorem eZ.jK{n:Nat}:∀(vs:List Nat)(a:List I){E:EV}{env:Env},eZ n E env->eZ n (ky n E vs a) (Rb.jK env vs a)
 |[],_,_,_,h=>h
 |t::r,a,_,_,h=>eZ.jK r a.tail (h.set t _)
def fP(Φ:Z)(n:Nat):gD->EV->O->(kR->EV->O->Prop)->Prop
 | .skip,E,H,Q=>Q .normal E H
 | .region ops,E,H,Q=>kv Φ n ops E H (Q .normal)
 | .draw ops _ cf last,E,H,Q=>pt Φ n ops last cf E H (Q .normal)
 | .seq a b,E,H,Q=>fP Φ n a E H λe c H'=>match e with
  | .normal=>fP Φ n b c H' Q
  |e=>Q e c H'
 | .join vs ks a b,E,H,Q=>fP Φ n a E H λe c H'=>match e with
  | .normal=>V (λst d=>fP Φ n b (ky n (kx n E ks) vs st) d Q) (jq c vs) H'
  |e=>Q e c H'
 | .cond x a b,E,H,Q=>q ((x.sub E).ev []) abZ (fP Φ n a E H Q) (fP Φ n b E H Q)
 | .block id a,E,H,Q=>fP Φ n a E H λe c H'=>match e with
  | .exit f=>if f=id then Q .normal c H' else Q (.exit f) c H'
  |e=>Q e c H'
 | .loop vs ks a,E,H,Q=>
  au (λ(s:List I×O) (K:List I×O->Prop)=>
    fP Φ n a (ky n (kx n E ks) vs s.1) s.2 λe c H'=>match e with
     | .normal=>K (jq c vs,H')
     |e=>Q e c H') (jq E vs,H)
 | .exit id,E,H,Q=>Q (.exit id) E H
 | .ret,E,H,Q=>Q .ret E H
 | .freeze t a,E,H,Q=>bJ (lA H (gf E t)) λv H'=>fP Φ n a (gg n E t v) H' Q
 | .jJ vs ks ops b,E,H,Q=>kv Φ n ops E H λc H'=>V (λst d=>fP Φ n b (ky n (kx n E ks) vs st) d Q) (jq c vs) H'
theorem au.imp{a:Type}{F b:a->(a->Prop)->Prop}(c:∀s K,F s K->b s K){s:a}(h:au F s):au b s:=λd e=>h d λs K hs f=>e s K (c s K hs) f
theorem PI(p:ko Φ):∀{c:gD}{E:EV}{env:Env}{H:O}{K:kR->EV->O->Prop}{Q:kR->Env->O->Prop},eZ n E env->fP Φ n c E H K->(∀x j bw H',eZ n j bw->K x j H'->Q x bw H')->gM Φ c env H Q:=by
 intro c;induction c with
 |skip=>intro E env H K Q d h e;exact e _ _ _ _ d h
 |region ops=>intro E env H K Q d h e;exact Fe p d h λ_ _ _ d h=>e _ _ _ _ d h
 |draw ops pr cf last=>intro E env H K Q d h e;exact PH p d h λ_ _ _ d h=>e _ _ _ _ d h
 | seq a b l m=>
  intro E env H K Q d h e;simp only[fP]at h;simp only[gM];refine l d h λx j o H' g f=>?_;cases x with
  |normal=>exact m g f e
  |exit i=>exact e _ _ _ _ g f
  |ret=>exact e _ _ _ _ g f
 | join vs ks a b l m=>
  intro E env H K Q d h e;simp only[fP]at h;simp only[gM];refine l d h λx j o H' g f=>?_;cases x with
  | normal=>dsimp only at f ⊢;rw[g.gL vs]at f;exact m ((d.hL ks).jK vs _) f e
  |exit i=>exact e _ _ _ _ g f
  |ret=>exact e _ _ _ _ g f
 | cond x a b l m=>intro E env H K Q d h e;simp only[fP,Am d]at h;exact q.mono (λh=>l d h e) (λh=>m d h e) h
 | block id a k=>
  intro E env H K Q d h e;simp only[fP]at h;simp only[gM];refine k d h λx j o H' g f=>?_;cases x with
  |normal=>exact e _ _ _ _ g f
  | exit i=>
   dsimp only at f ⊢;split
   ·rename_i hi;rw[aa hi]at f;exact e _ _ _ _ g f
   ·rename_i hi;rw[ad hi]at f;exact e _ _ _ _ g f
  |ret=>exact e _ _ _ _ g f
 | loop vs ks a k=>
  intro E env H K Q d h e;simp only[fP]at h;simp only[gM];rw[d.gL vs]at h;refine au.imp (λs K' hs=>k ((d.hL ks).jK vs s.1) hs λx j o H' g f=>?_) h;cases x with
  |normal=>dsimp only at f ⊢;rw[<-g.gL vs];exact f
  |exit i=>exact e _ _ _ _ g f
  |ret=>exact e _ _ _ _ g f
 |exit id=>intro E env H K Q d h e;exact e _ _ _ _ d h
 |ret=>intro E env H K Q d h e;exact e _ _ _ _ d h
 | freeze t a k=>intro E env H K Q d h e;simp only[fP]at h;simp only[gM];rw[d.2 t]at h;exact bJ.mono (λv H' f=>k (d.set t v) f e) h
 | jJ vs ks ops b k=>intro E env H K Q d h e;simp only[fP]at h;simp only[gM];refine Fe p d h λj o H' g f=>?_;rw[g.gL vs]at f;exact k ((d.hL ks).jK vs _) f e
def ob(E:EV)(H:O):List lG->(List I->Prop)->Prop
 |[],K=>K []
 | .tmp t::r,K=>ob E H r λvs=>K (gf E t::vs)
 | .cell t n agg::r,K=>Do (af H n agg (gf E t)) λv=>ob E H r λvs=>K (v::vs)
theorem Fh{E:EV}(a:eZ n E env):∀{rs:List lG}{K:List I->Prop},ob E H rs K=mA env H rs K:=by
 intro rs;induction rs with
 |nil=>intro K;rfl
 | cons r rs b=>
  intro K;cases r with
  |tmp t=>simp only[ob,mA,b,a.2]
  |cell t n agg=>simp only[ob,mA,b,a.2]
def An(Φ:Z)(f:bn)(a:List I)(H:O)(Q:ab):Prop:=
 fP Φ f.ntmps f.body (oa a 0) H λe E H'=>match e with
  | .exit _=>False
  |_=>ob E H' f.results λvs=>Q (o0 vs) H'
def Ao(Φ:Z)(f:bn)(a:List I)(H:O)(Q:ab):Prop:=a.length<=f.ntmps/\An Φ f a H Q
theorem Fi(d:ko Φ){f:bn}{b:List I}{Q:ab}(h:Ao Φ f b H Q):qI Φ f b H Q:=by
 have e:eZ f.ntmps (oa b 0) (b++Gd (f.ntmps-b.length) .bot):=by
  refine⟨by simp;have:=h.1;omega,λi=>?_⟩;rw[Fb];simp only[Nat.not_lt_zero,cc,Nat.sub_zero];simp only[aaW];by_cases hi:i<b.length
  ·rw[List.getElem?_append_left hi]
  . rw[List.getElem?_append_right (by omega),List.getElem?_eq_none (by omega),List.getElem?_replicate];split<;>rfl
 refine PI d e h.2 λx g j H' c a=>?_;cases x with
 |normal=>dsimp only at a ⊢;rw[Fh c]at a;exact a
 |exit i=>exact a
 |ret=>dsimp only at a ⊢;rw[Fh c]at a;exact a
end
end Rb
namespace Rb
open Go
variable{Φ:Z}{B:fG}{T:TH}{n fuel:Nat}{E:EV}{K:ng}{Q:ab}{P:Prop}{o:cz}{ops:List cz}{v:I}{want:Bool}
def Fj(Φ:fG)(f:I)(a:List I)(T:TH)(K:ng):Bool:=
 match f with
 | .fn key cB=>Φ (lB key) (lC key a cB) T K
 |_=>ab0
def pv(Φ:fG)(d:Env)(T:TH)(K:ng):e_->Bool
 | .mv x=>K (x.ev d) T
 | .pick c a b=>uh (c.ev d) abZ (K (a.ev d) T) (K (b.ev d) T)
 | .bin op x y=>fO (dA op (x.ev d) (y.ev d)) λv=>K v T
 | .beq neg x y=>fO (kL neg (x.ev d) (y.ev d)) λv=>K v T
 | .kk k neg x=>fO (hh k neg (x.ev d)) λv=>K v T
 | .jI neg ks x y=>fO (ih neg ks (x.ev d) (y.ev d)) λv=>K v T
 | .un op x=>fO (c4 op (x.ev d)) λv=>K v T
 | .conv k x=>fO (gb k (x.ev d)) λv=>K v T
 | .same x=>fO (qD (x.ev d)) λv=>K v T
 | .kM x=>fO (br (x.ev d)) λv=>K v T
 | .field off sz agg x=>fO (mz off sz agg (x.ev d)) λv=>K v T
 | .idx len sz agg x i=>fO (lv len sz agg (x.ev d) (i.ev d)) λv=>K v T
 | .idxs x i=>fO (jH (x.ev d) (i.ev d)) λv=>K v T
 | .kN off x=>fO (aJ off (x.ev d)) λv=>K v T
 | .kl arr sz x i=>fO (aP arr sz (x.ev d) (i.ev d)) λv=>K v T
 | .slice sz x lo hi mx=>fO (cC sz (x.ev d) (lo.map (b7.ev d)) (hi.map (b7.ev d)) (mx.map (b7.ev d))) λv=>K v T
 | .kO x lo hi=>fO (qE (x.ev d) (lo.map (b7.ev d)) (hi.map (b7.ev d))) λv=>K v T
 | .iN t x=>K (.iface t (x.ev d)) T
 | .ij key cB=>K (.fn key (gC d cB)) T
 | .extract i x=>fO (bL i (x.ev d)) λv=>K v T
 | .build zero parts=>fO (bI zero (hq d parts)) λv=>K v T
 | .len str x=>fO (eV str (x.ev d)) λv=>K v T
 | .iO n=>K (.int .i64 n) T
 | .iP mx xs=>fO (hj mx (gC d xs)) λv=>K v T
 | .load n agg x=>fO (af T.ah n agg (x.ev d)) λv=>K v T
 | .store n x v=>fO (Af T n (x.ev d) (v.ev d)) λT=>K (.aH []) T
 | .box mu n x=>k3 (Ag T mu n (x.ev d)) K
 | .alloc mu zero=>k3 (ab1 (qU T mu zero)) K
 | .ik mu sz len zero parts=>k3 (Ah T mu sz len zero (hq d parts)) K
 | .append mu sz bytes x y=>k3 (Ai T mu sz bytes (x.ev d) (y.ev d)) K
 | .make mu sz bytes zero len cap=>k3 (ui T mu sz bytes zero (len.ev d) (cap.ev d)) K
 | .copy sz x y=>k3 (Al T sz (x.ev d) (y.ev d)) K
 | .kP x=>fO (qG (x.ev d)) λv=>K v T
 | .jg x=>fO (abstr T.ah (x.ev d)) λv=>K v T
 | .jh x=>k3 (Aj T (x.ev d)) K
 | .ji x=>k3 (Ak T (x.ev d)) K
 | .call key args=>Φ key (gC d args) T K
 | .jj f args=>Fj Φ (f.ev d) (gC d args) T K
 | .ext e xs=>k3 (text T e (gC d xs)) K
def jr(Φ:Z)(B:fG):Prop:=∀k args T (K:ng),B k args T K=abZ->∀Q:ab,(∀v a,K v a=abZ->Q v a.ah)->Φ k args T.ah Q
theorem Fk{α:Type}{x:Option α}{K:α->Bool}{P:α->Prop}(h:fO x K=abZ)(b:∀a,K a=abZ->P a):Do x P:=by
 cases x with
 |none=>cases h
 |some a=>exact⟨a,rfl,b a h⟩
theorem lS{x:Option (I×TH)}{y:Option (I×O)}(c:x.map vh=y)(h:k3 x K=abZ)(d:∀v b,K v b=abZ->Q v b.ah):bJ y Q:=by
 cases x with
 |none=>cases h
 |some a=>subst c;exact⟨a.1,a.2.ah,rfl,d _ _ h⟩
theorem PJ{x:Option TH}{y:Option O}{K:TH->Bool}{P:O->Prop}(c:x.map TH.ah=y)(h:fO x K=abZ)(d:∀b,K b=abZ->P b.ah):Do y P:=by
 cases x with
 |none=>cases h
 |some a=>subst c;exact⟨a.ah,rfl,d _ h⟩
theorem Fl{A B:Bool}{P Q:Prop}(h:uh v want A B=abZ)(a:A=abZ->P)(c:B=abZ->Q):q v want P Q:=by
 cases v<;>first|cases h|skip
 rename_i b;simp only[uh]at h;unfold q;dsimp only;split
 ·rename_i e;subst e;simp at h;exact a h
 . rename_i e;have:(b ^^ want)=abZ:=by cases b<;>cases want<;>simp_all
   rw[this]at h;exact c h
theorem uo(b:jr Φ B){c:Env}{op:e_}(h:pv B c T K op=abZ)(a:∀v d,K v d=abZ->Q v d.ah):cW Φ c T.ah Q op:=by
 cases op with
 |mv=>exact a _ _ h
 |pick=>exact Fl h (a _ _) (a _ _)
 |iN=>exact a _ _ h
 |ij=>exact a _ _ h
 |iO=>exact a _ _ h
 |store=>exact PJ (Pu _ _ _ _) h λ_ h=>a _ _ h
 |box=>exact lS (Pv _ _ _ _) h a
 |alloc mu zero=>exact lS (x:=ab1 (qU T mu zero)) (by simp only[Option.map_some,E_]) h a
 |ik=>exact lS (Pw _ _ _ _ _ _) h a
 |append=>exact lS (Px _ _ _ _ _ _) h a
 |make=>exact lS (PA _ _ _ _ _ _ _) h a
 |copy=>exact lS (PB _ _ _ _) h a
 |jh=>exact lS (Py _ _) h a
 |ji=>exact lS (Pz _ _) h a
 |call key args=>exact b _ _ _ _ h _ a
 | jj f args=>
  simp only[pv,Fj]at h;split at h
  . rename_i key cB hf;exact⟨key,cB,hf,b _ _ _ _ h _ a⟩
  ·cases h
 |ext=>exact lS (Pt _ _ _) h a
 |_=>exact Fk h λ_ h=>a _ _ h
def uq(v:I)(want:Bool)(A B C:Bool):Bool:=
 match v with
 | .bool b=>bif ab7 b want then B else A
 | .aH []=>C
 |_=>ab0
theorem Fm{A B C:Bool}{P Q R:Prop}(h:uq v want A B C=abZ)(a:A=abZ->P)(c:B=abZ->Q)(d:C=abZ->R):u v want P Q R:=by
 unfold uq at h;unfold u;split at h
 . rename_i b;dsimp only;split
   ·rename_i e;subst e;simp at h;exact a h
   . rename_i e;have:(b ^^ want)=abZ:=by cases b<;>cases want<;>simp_all
     rw[this]at h;exact c h
 ·exact d h
 ·cases h
noncomputable section
def ni(Φ:fG)(n:Nat):List cz->EV->TH->(EV->TH->Bool)->Bool
 |[],E,T,K=>K E T
 | o :: r,E,T,K=>
  match o.guard with
  |none=>pv Φ [] T (λv a=>ni Φ n r (gV n E o.dst v) a K) (o.op.sub E)
  | some (s,want)=>
   uq (gf E s) want (pv Φ [] T (λv a=>ni Φ n r (gV n (gg n E s (.bool want)) o.dst v) a K) (o.op.sub (gg n E s (.bool want))))
    (ni Φ n r (gV n (gg n E s (.bool !want)) o.dst (.aH [])) T K) (ni Φ n r (gV n (gg n E s (.aH [])) o.dst (.aH [])) T K)
theorem Fo(f:jr Φ B):∀{l:List cz}{E:EV}{T:TH}{K:EV->TH->Bool}{Q:ku},ni B n l E T K=abZ->(∀e b,K e b=abZ->Q e b.ah)->kv Φ n l E T.ah Q:=by
 intro l;induction l with
 |nil=>intro E T K Q h a;exact a _ _ h
 | cons o r c=>
  intro E T K Q h a;simp only[ni]at h;simp only[kv];cases i:o.guard with
  | none=>rw[i]at h;exact uo f h (Q:=λv H'=>kv Φ n r (gV n E o.dst v) H' Q) λv b d=>c d a
  | some g=>obtain⟨s,want⟩:=g;rw[i]at h;exact Fm h (λh=>uo f h (Q:=λv H'=>kv Φ n r (gV n (gg n E s (.bool want)) o.dst v) H' Q) λv b d=>c d a) (λh=>c h a) λh=>c h a
def ur(Φ:fG)(n:Nat)(o:cz)(E:EV)(T:TH)(K:EV->TH->Bool):Bool:=
 match o.guard with
 |none=>pv Φ [] T (λv a=>K (gV n E o.dst v) a) (o.op.sub E)
 | some (s,want)=>
  uq (gf E s) want (pv Φ [] T (λv a=>K (gV n (gg n E s (.bool want)) o.dst v) a) (o.op.sub (gg n E s (.bool want))))
   (K (gV n (gg n E s (.bool !want)) o.dst (.aH [])) T) (K (gV n (gg n E s (.aH [])) o.dst (.aH [])) T)
theorem Fp(d:jr Φ B){K:EV->TH->Bool}{Q:ku}(h:ur B n o E T K=abZ)(a:∀e b,K e b=abZ->Q e b.ah):po Φ n o E T.ah Q:=by
 unfold ur at h;unfold po;cases f:o.guard with
 | none=>rw[f]at h;exact uo d h (Q:=λv H'=>Q (gV n E o.dst v) H') λv b c=>a _ _ c
 | some g=>obtain⟨s,want⟩:=g;rw[f]at h;exact Fm h (λh=>uo d h (Q:=λv H'=>Q (gV n (gg n E s (.bool want)) o.dst v) H') λv b c=>a _ _ c) (λh=>a _ _ h) λh=>a _ _ h
def qW(Φ:fG)(n:Nat)(ops:List cz):List Nat->EV->TH->(EV->TH->Bool)->Bool
 |[],E,T,K=>K E T
 | i::r,E,T,K=>match ops[i]? with
  |some o=>ur Φ n o E T λa b=>qW Φ n ops r a b K
  |none=>ab0
theorem Fq(c:jr Φ B):∀{l:List Nat}{E:EV}{T:TH}{K:EV->TH->Bool}{Q:ku},qW B n ops l E T K=abZ->(∀e a,K e a=abZ->Q e a.ah)->nh Φ n ops l E T.ah Q:=by
 intro l;induction l with
 |nil=>intro E T K Q h b;exact b _ _ h
 | cons i r d=>
  intro E T K Q h b;simp only[qW]at h;simp only[nh];cases ho:ops[i]? with
  |none=>rw[ho]at h;cases h
  | some o=>rw[ho]at h;exact Fp c h (Q:=λe H'=>nh Φ n ops r e H' Q) λe a f=>d f b
def uu(x:Option I)(d:I):Bool:=
 match x with
 |some v=>v.same d
 |none=>ab0
def Fs(g:I)(want:Bool)(X:Bool):Bool:=
 match g with
 | .bool b=>bif ab7 b want then abZ else X
 |_=>abZ
def uv(T:TH)(E:EV)(o:cz):Bool:=
 match o.op with
 | .load n agg x=>uu (af T.ah n agg ((x.sub E).ev [])) (gf E (o.dst.getD 0))
 | .jg x=>uu (abstr T.ah ((x.sub E).ev [])) (gf E (o.dst.getD 0))
 |_=>abZ
theorem PK{x:Option I}{d:I}(h:uu x d=abZ):x=ab1 d:=by
 unfold uu at h;split at h
 ·rw[I.uf _ _ h]
 ·cases h
theorem Ft(h:uv T E o=abZ):pq E T.ah o:=by unfold uv at h;unfold pq;cases ho:o.op<;>rw[ho]at h<;>first|trivial|exact PK h
def Ap(T:TH)(E:EV)(o:cz):Bool:=
 match o.guard with
 |none=>uv T E o
 |some (s,want)=>Fs (gf E s) want (uv T E o)
theorem PM(h:Ap T E o=abZ):qV E T.ah o:=by
 unfold Ap at h;unfold qV;cases a:o.guard with
 |none=>rw[a]at h;exact Ft h
 | some g=>obtain⟨s,want⟩:=g;rw[a]at h;dsimp only at h ⊢;intro hs;rw[hs]at h;simp only[Fs,Bool.xor_self,cond_false]at h;exact Ft h
def uw(ops:List cz)(E:EV)(T:TH)(X:Bool):List Nat->Bool
 |[]=>X
 |l::r=>(match ops[l]? with|some o=>Ap T E o|none=>abZ)&&uw ops E T X r
theorem PN{X:Bool}(a:X=abZ->P):∀{l:List Nat},uw ops E T X l=abZ->um ops E T.ah P l:=by
 intro l;induction l with
 |nil=>intro h;exact a h
 | cons i r b=>
  intro h;simp only[uw,ZL]at h;refine⟨?_,b h.2⟩;have U:=h.1;cases ho:ops[i]? with
  |none=>trivial
  |some o=>rw[ho]at U;exact PM U
def ux(Φ:fG)(n:Nat)(ops:List cz)(a:List Nat):List (List Nat×Nat×List Nat)->EV->TH->(EV->TH->Bool)->Bool
 |[],E,T,K=>qW Φ n ops a E T K
 | (d,e,st)::r,E,T,K=>qW Φ n ops d E T λb f=>match ops[e]? with
  |some o=>ur Φ n o b f λg c=>uw ops b c (ux Φ n ops a r g c K) st
  |none=>ab0
theorem PO(a:jr Φ B){c:List Nat}:∀{cf:List (List Nat×Nat×List Nat)}{E:EV}{T:TH}{K:EV->TH->Bool}{Q:ku},ux B n ops c cf E T K=abZ->(∀e d,K e d=abZ->Q e d.ah)->pt Φ n ops c cf E T.ah Q:=by
 intro cf;induction cf with
 |nil=>intro E T K Q h b;exact Fq a h b
 | cons p r f=>
  obtain⟨i,e,st⟩:=p;intro E T K Q h b;simp only[ux]at h;simp only[pt];refine Fq a h λe1 j U=>?_;cases ho:ops[e]? with
  |none=>rw[ho]at U;cases U
  | some o=>rw[ho]at U;exact Fp a U λk l g=>PN (λh=>f h b) g
def Aq{a:Type}(F:a->(a->Bool)->Bool)(n:Nat):a->Bool:=Nat.rec (motive:=λ_=>a->Bool) (λ_=>ab0) (λ_ b s=>F s b) n
def Fu(K:List I->TH->Bool)(a:List I)(T:TH):Bool:=K a T
def h2(Φ:fG)(fuel:Nat)(n:Nat):gD->EV->TH->(kR->EV->TH->Bool)->Bool
 | .skip,E,T,Q=>Q .normal E T
 | .region ops,E,T,Q=>ni Φ n ops E T (Q .normal)
 | .draw ops _ cf last,E,T,Q=>ux Φ n ops last cf E T (Q .normal)
 | .seq a b,E,T,Q=>h2 Φ fuel n a E T λe d c=>match e with
  | .normal=>h2 Φ fuel n b d c Q
  |e=>Q e d c
 | .join vs ks a b,E,T,Q=>h2 Φ fuel n a E T λe d c=>match e with
  | .normal=>Fu (λst f=>h2 Φ fuel n b (ky n (kx n E ks) vs st) f Q) (jq d vs) c
  |e=>Q e d c
 | .cond x a b,E,T,Q=>uh ((x.sub E).ev []) abZ (h2 Φ fuel n a E T Q) (h2 Φ fuel n b E T Q)
 | .block id a,E,T,Q=>h2 Φ fuel n a E T λe d c=>match e with
  | .exit g=>if g=id then Q .normal d c else Q (.exit g) d c
  |e=>Q e d c
 | .loop vs ks a,E,T,Q=>
  Aq (λ(s:List I×TH) (K:List I×TH->Bool)=>
    h2 Φ fuel n a (ky n (kx n E ks) vs s.1) s.2 λe d c=>match e with
     | .normal=>K (jq d vs,c)
     |e=>Q e d c) fuel (jq E vs,T)
 | .exit id,E,T,Q=>Q (.exit id) E T
 | .ret,E,T,Q=>Q .ret E T
 | .freeze t a,E,T,Q=>k3 (uj T (gf E t)) λv c=>h2 Φ fuel n a (gg n E t v) c Q
 | .jJ vs ks ops b,E,T,Q=>ni Φ n ops E T λd c=>Fu (λst f=>h2 Φ fuel n b (ky n (kx n E ks) vs st) f Q) (jq d vs) c
theorem PQ(p:jr Φ B):∀{c:gD}{E:EV}{T:TH}{K:kR->EV->TH->Bool}{Q:kR->EV->O->Prop},h2 B fuel n c E T K=abZ->(∀x e g,K x e g=abZ->Q x e g.ah)->fP Φ n c E T.ah Q:=by
 intro c;induction c with
 |skip=>intro E T K Q h d;exact d _ _ _ h
 |region ops=>intro E T K Q h d;exact Fo p h λ_ _ h=>d _ _ _ h
 |draw ops pr cf last=>intro E T K Q h d;exact PO p h λ_ _ h=>d _ _ _ h
 | seq a b l o=>
  intro E T K Q h d;simp only[h2]at h;simp only[fP];refine l h λx e g f=>?_;cases x with
  |normal=>exact o f d
  |exit i=>exact d _ _ _ f
  |ret=>exact d _ _ _ f
 | join vs ks a b l o=>
  intro E T K Q h d;simp only[h2]at h;simp only[fP];refine l h λx e g f=>?_;cases x with
  |normal=>exact o f d
  |exit i=>exact d _ _ _ f
  |ret=>exact d _ _ _ f
 | cond x a b l o=>intro E T K Q h d;exact Fl h (λh=>l h d) λh=>o h d
 | block id a k=>
  intro E T K Q h d;simp only[h2]at h;simp only[fP];refine k h λx e g f=>?_;cases x with
  |normal=>exact d _ _ _ f
  | exit i=>
   dsimp only at f ⊢;split
   ·rename_i hi;rw[aa hi]at f;exact d _ _ _ f
   ·rename_i hi;rw[ad hi]at f;exact d _ _ _ f
  |ret=>exact d _ _ _ f
 | loop vs ks a k=>
  intro E T K Q h d;simp only[h2]at h;simp only[fP];have main : ∀(m:Nat)(s:List I×TH),Aq (λ(s:List I×TH) (K':List I×TH->Bool)=>
        h2 B fuel n a (ky n (kx n E ks) vs s.1) s.2 λe j g=>match e with
         | .normal=>K' (jq j vs,g)
         |e=>K e j g) m s=abZ ->
      au (λ(s:List I×O) (K:List I×O->Prop)=>
        fP Φ n a (ky n (kx n E ks) vs s.1) s.2 λe j H'=>match e with
         | .normal=>K (jq j vs,H')
         |e=>Q e j H') (s.1,s.2.ah):=by
    intro m;induction m with
    |zero=>intro s h;cases h
    | succ m q=>
     intro s h;refine au.step ?_;refine k (K:=λe j g=>match e with
         | .normal=>Aq (λ(s:List I×TH) (K':List I×TH->Bool)=>
           h2 B fuel n a (ky n (kx n E ks) vs s.1) s.2 λe j g=>match e with
            | .normal=>K' (jq j vs,g)
            |e=>K e j g) m (jq j vs,g)
         |e=>K e j g) h λx e g f=>?_
     cases x with
     |normal=>exact q _ f
     |exit i=>exact d _ _ _ f
     |ret=>exact d _ _ _ f
  exact main fuel _ h
 |exit id=>intro E T K Q h d;exact d _ _ _ h
 |ret=>intro E T K Q h d;exact d _ _ _ h
 | freeze t a k=>intro E T K Q h d;exact lS (PC _ _) h λv g f=>k f d
 | jJ vs ks ops b k=>intro E T K Q h d;exact Fo p h (Q:=λj H'=>V (λst r=>fP Φ n b (ky n (kx n E ks) vs st) r Q) (jq j vs) H') λe g f=>k f d
def uy(E:EV)(T:TH):List lG->(List I->Bool)->Bool
 |[],K=>K []
 | .tmp t::r,K=>uy E T r λvs=>K (gf E t::vs)
 | .cell t n agg::r,K=>fO (af T.ah n agg (gf E t)) λv=>uy E T r λvs=>K (v::vs)
theorem Fv:∀{rs:List lG}{K:List I->Bool}{P:List I->Prop},uy E T rs K=abZ->(∀vs,K vs=abZ->P vs)->ob E T.ah rs P:=by
 intro rs;induction rs with
 |nil=>intro K P h a;exact a _ h
 | cons r rs b=>
  intro K P h a;cases r with
  |tmp t=>exact b (K:=λvs=>K (gf E t::vs)) h λvs h=>a _ h
  |cell t n agg=>exact Fk h λv h=>b (K:=λvs=>K (v::vs)) h λvs h=>a _ h
def Fw(Φ:fG)(fuel:Nat)(f:bn)(b:List I)(T:TH)(Q:ng):Bool:=
 h2 Φ fuel f.ntmps f.body (oa b 0) T λe E a=>match e with
  | .exit _=>ab0
  |_=>uy E a f.results λvs=>Q (o0 vs) a
def Ar(Φ:fG)(fuel:Nat)(f:bn)(a:List I)(T:TH)(Q:ng):Bool:=and (ab_ a.length f.ntmps) (Fw Φ fuel f a T Q)
theorem PR(g:jr Φ B){f:bn}{c:List I}(h:Ar B fuel f c T K=abZ)(d:∀v a,K v a=abZ->Q v a.ah):Ao Φ f c T.ah Q:=by
 simp only[Ar,Fw,ZL]at h;refine⟨aca h.1,PQ g h.2 λx e a b=>?_⟩;cases x with
 |normal=>exact Fv b λvs h=>d _ _ h
 |exit i=>cases b
 |ret=>exact Fv b λvs h=>d _ _ h
end
end Rb
namespace Rb
open Go
variable{Φ:Z}{T:k0}{k:Nat}{f:bn}{args:List I}{H:O}{Q:ab}
structure Cl(Φ:Z)(T:k0):Prop where
 mono:ko Φ
 run:∀k f,T.get k=ab1 f->∀args H Q,Ao Φ f args H Q->Φ k args H Q
theorem Cl.of(a:ko Φ)(h:E4 Φ T):Cl Φ T:=⟨a,λk f hk args H Q hs=>h k f hk args H Q (Fi a hs)⟩
theorem Cl.call(M:Cl Φ T)(hk:T.get k=ab1 f)(hn:ab_ args.length f.ntmps=abZ)(h:An Φ f args H Q):Φ k args H Q:=M.run k f hk args H Q ⟨aca hn,h⟩
def ck(n:Nat)(a:I)(H:O)(K:I->Prop):Prop:=Do (br a) λx=>Do (aJ n x) λy=>Do (af H 1 ab0 y) K
def g(n:Nat)(a:I)(H:O)(K:I->Prop):Prop:=Do (aJ n a) λx=>Do (af H 1 ab0 x) K
def dV(n:Nat)(a:I)(H:O)(v:I)(K:O->Prop):Prop:=Do (br a) λx=>Do (aJ n x) λy=>Do (bZ H 1 y v) K
def eI(n:Nat)(a:I)(H:O)(v:I)(K:O->Prop):Prop:=Do (aJ n a) λx=>Do (bZ H 1 x v) K
def eA(n:Nat)(a i:I)(H:O)(K:I->Prop):Prop:=Do (aP ab2 n a i) λx=>Do (af H 1 ab0 x) K
def cM(H:O)(x:I)(K:I->Prop):Prop:=Do (af H 1 ab0 x) K
def l(H:O)(n:Nat)(x:I)(K:I->Prop):Prop:=Do (af H n abZ x) K
def d(o:BinOp)(x y:I)(K:I->Prop):Prop:=Do (dA o x y) K
def aU(H:O)(n:Nat)(x v:I)(K:O->Prop):Prop:=Do (bZ H n x v) K
def aS(n:Nat)(a:I)(K:I->Prop):Prop:=Do (aJ n a) K
def b8(H:O)(z:List I)(K:I->O->Prop):Prop:=bJ (ab1 (bx H abZ z)) K
def cu(H:O)(n:Nat)(v:I)(K:I->O->Prop):Prop:=bJ (cg H ab0 n v) K
def cS(z:List I)(p:List (Nat×Nat×I))(K:I->Prop):Prop:=Do (bI z p) K
def bK(x:I)(K:I->Prop):Prop:=Do (eV ab0 x) K
theorem ae:(∀(n:Nat)(a:I)(H:O)(K:I->Prop),ck n a H K=Do (br a) λx=>Do (aJ n x) λy=>Do (af H 1 ab0 y) K)/\(∀(n:Nat)(a:I)(H:O)(K:I->Prop),g n a H K=Do (aJ n a) λx=>Do (af H 1 ab0 x) K)/\(∀(n:Nat)(a:I)(H:O)(v:I)(K:O->Prop),dV n a H v K=Do (br a) λx=>Do (aJ n x) λy=>Do (bZ H 1 y v) K)/\(∀(n:Nat)(a:I)(H:O)(v:I)(K:O->Prop),eI n a H v K=Do (aJ n a) λx=>Do (bZ H 1 x v) K)/\(∀(n:Nat)(a i:I)(H:O)(K:I->Prop),eA n a i H K=Do (aP ab2 n a i) λx=>Do (af H 1 ab0 x) K)/\(∀(H:O)(x:I)(K:I->Prop),cM H x K=Do (af H 1 ab0 x) K)/\(∀(H:O)(n:Nat)(x:I)(K:I->Prop),l H n x K=Do (af H n abZ x) K)/\(∀(o:BinOp)(x y:I)(K:I->Prop),d o x y K=Do (dA o x y) K)/\(∀(H:O)(n:Nat)(x v:I)(K:O->Prop),aU H n x v K=Do (bZ H n x v) K)/\(∀(n:Nat)(a:I)(K:I->Prop),aS n a K=Do (aJ n a) K)/\(∀(H:O)(z:List I)(K:I->O->Prop),b8 H z K=bJ (ab1 (bx H abZ z)) K)/\(∀(H:O)(n:Nat)(v:I)(K:I->O->Prop),cu H n v K=bJ (cg H ab0 n v) K)/\(∀(z:List I)(p:List (Nat×Nat×I)) (K:I->Prop),cS z p K=Do (bI z p) K)/\(∀(x:I)(K:I->Prop),bK x K=Do (eV ab0 x) K):=⟨λ_ _ _ _=>rfl,λ_ _ _ _=>rfl,λ_ _ _ _ _=>rfl,λ_ _ _ _ _=>rfl,λ_ _ _ _ _=>rfl,λ_ _ _=>rfl,λ_ _ _ _=>rfl,λ_ _ _ _=>rfl,λ_ _ _ _ _=>rfl,λ_ _ _=>rfl,λ_ _ _=>rfl,λ_ _ _ _=>rfl,λ_ _ _=>rfl,λ_ _=>rfl⟩
abbrev j:=List I->O->Prop
abbrev ST:=List I×O
abbrev LT:=ST->Prop
abbrev BT:=ST->LT->Prop
theorem Cl.c(M:Cl Φ T){k:Nat}{P:Prop}(h:P)(e:An Φ f args H Q=P:=by kernel_rfl)(hk:T.get k=ab1 f:=by kernel_rfl)(hn:ab_ args.length f.ntmps=abZ:=by kernel_rfl):Φ k args H Q:=M.call hk hn (e.mpr h)
end Rb
namespace Rb
open Go
variable{Φ:Z}
def Tok.free:Tok->Bool
 | .own _=>ab0
 |_=>abZ
mutual
def I.cj:I->Bool
 | .bool _ | .int _ _ | .str _ | .ga | .ic | .ie=>abZ
 | .ak cs=>I.cD cs
 | .aj tk _ cs=>tk.free&&I.cD cs
 | .fn _ cs=>I.cD cs
 | .iface _ v=>I.cj v
 | .agg cs=>I.cD cs
 | .aH cs=>I.cD cs
 |_=>ab0
def I.cD:List I->Bool
 |[]=>abZ
 |c::r=>I.cj c&&I.cD r
end
theorem pw:∀{cs:List I},I.cD cs=cs.all I.cj
 |[]=>rfl
 |c::r=>by simp only[I.cD,ab4,pw (cs:=r)]
theorem py{cs:List I}(h:I.cD cs=abZ)(j:Nat)(c:I)(hc:cs[j]?=ab1 c):c.cj=abZ:=by rw[pw,List.all_eq_true]at h;exact h c (List.mem_of_getElem? hc)
theorem Au{F:el}{w R:World}{G G':ch}(i:∀b o,G.fz b o->G'.fz b o)(hc:∀b o V,G.fz b o->w.cell? ⟨b,o,ab2⟩=ab1 V->R.cell? ⟨b,o,ab2⟩=ab1 V){c:I}{V:Value}(hf:c.cj=abZ)(h:VR F w G c V):VR F R G' c V:=by
 induction h with
 |bot=>simp[I.cj]at hf
 |bool b=>exact .bool b
 |int k n=>exact .int k n
 |str s=>exact .str s
 |ga=>exact .ga
 |ptr=>simp[I.cj]at hf
 | ak cells b o Vs h hv e=>simp only[I.cj]at hf;exact .ak cells b o Vs (λj c d=>⟨i _ _ (h j c d).1,hc _ _ _ (h j c d).1 (h j c d).2⟩) λj c d=>e j c d (py hf j c d)
 |hY=>exact .hY
 |gp a cap=>exact .gp a cap
 | aj tk len cells b o cap Vs ht hle h hv e=>
  simp only[I.cj,ZL]at hf;refine .aj tk len cells b o cap Vs ?_ hle (λj c d=>⟨i _ _ (h j c d).1,hc _ _ _ (h j c d).1 (h j c d).2⟩) λj c d=>e j c d (py hf.2 j c d);cases tk with
  |own t=>simp[Tok.free]at hf
  |nil=>exact ht
  |full=>exact ht
  |dead=>exact ht
 |row=>simp[I.cj]at hf
 | fn key cB f Vs hk l hl hv e=>simp only[I.cj]at hf;exact .fn key cB f Vs hk l hl λj c V hc g=>e j c V hc g (py hf j c hc)
 |ic=>exact .ic
 |iface t v V h e=>exact .iface t v V (e (by simpa[I.cj]using hf))
 |ie=>exact .ie
 | agg cs Vs hl hv e=>simp only[I.cj]at hf;exact .agg cs Vs hl λj c V hc g=>e j c V hc g (py hf j c hc)
 | aH cs Vs hl hv e=>simp only[I.cj]at hf;exact .aH cs Vs hl λj c V hc g=>e j c V hc g (py hf j c hc)
def cY(C:Ctx):Prop:=∀g l,C.GT g=ab1 l->I.cD l=abZ
theorem ag.Fx{C:Ctx}(ar:cY C){u:Nat}{q:List I}{Q:ab}(h:ag C u q O.mt Q)(D:I.cD q=abZ)(H:O)(K:ab)(x:∀v H',Q v H'->v.cj=abZ/\K v H):ag C u q H K:=by
 refine⟨by obtain⟨v,H',E⟩:=h.1;exact⟨v,H,(x v H' E).2⟩,λf hf G w Vs y a z=>?_⟩;have J:Rel C.F w (ch.mt G.fz) O.mt:=Rel.mt a.ig;have L:bG C.F w (ch.mt G.fz) q Vs:=⟨z.1,λj c V hc r=>Au (G:=G) (G':=ch.mt G.fz) (w:=w) (λ_ _ h=>h) (λ_ _ _ _ h=>h) (py D j c hc) (z.2 j c V hc r)⟩
 have M:kV C w (ch.mt G.fz):=λg l m=>Au (G:=G) (G':=ch.mt G.fz) (w:=w) (λ_ _ h=>h) (λ_ _ _ _ h=>h) (by simp only[I.cj];exact ar g l m) (y.1 g l m);refine abw (h.2 f hf _ w Vs (y.mt M λi hi=>by cases hi) J L) λe R he=>?_;obtain⟨V,v,H',G',rfl,N,hv,P,d⟩:=he;obtain⟨S,T⟩:=x v H' N;have s:=d.below;have A:∀b o,G'.fz b o->G.fz b o\/w.heap.size<=b:=by
  intro b o U;rcases d.hg b o U with h|h|⟨i,hi,_⟩
  ·exact .inl h
  ·exact .inr h
  ·cases hi
 let t:ch:={G with fz:=λb o=>G.fz b o\/G'.fz b o}
 have B:∀b o V,G.fz b o->w.cell? ⟨b,o,ab2⟩=ab1 V->R.cell? ⟨b,o,ab2⟩=ab1 V:=λb o V hf hc=>by rw[World.cell?_of_block (w:=w) (s.block b (World.block_lt_of_cell? w _ hc))];exact hc
 have m:GLe w G R t:=⟨Nat.le_refl _,λ_ _=>rfl,λ_ _=>rfl,λ_ _ h=> .inl h,B⟩
 refine⟨V,v,H,t,rfl,T,Au (G:=G') (G':=t) (w:=R) (λ_ _ h=>Or.inr h) (λ_ _ _ _ h=>h) S hv,⟨a.n,a.over,λj=>(a.obj j).cv m (λhl=>a.jL hl) (λhl=>s.block _ ((a.obj j).lt hl)) λhl o p=>?_,a.hJ,λb o hf=>?_⟩,?_⟩
 . rcases p with p|p
   ·exact p
   . rcases A _ _ p with h|h
     ·exact h
     ·exact absurd ((a.obj j).lt hl) (by omega)
 . rcases hf with hf|hf
   . obtain⟨V,r⟩:=a.ig b o hf;exact⟨V,B b o V hf r⟩
   ·exact P.ig b o hf
 . exact {m with
     size:=d.size,os:=d.os,tape:=d.tape,output:=d.output,dr:=d.dr,eN:=λk hk _=>s.block k hk,owned:=λi hi _=>⟨i,hi,rfl⟩
     hg:=λb o hf=>by
      rcases hf with hf|hf
      ·exact .inl hf
      . rcases A b o hf with h|h
        ·exact .inl h
        ·exact .inr (.inl h)}
abbrev pz:=Nat->List I->Option I
def h3(Φ:Z)(M:pz):Prop:=∀k args v,M k args=ab1 v->∀(H:O)(Q:ab),Q v H->Φ k args H Q
noncomputable section
def Av(M:pz)(a:fG->fG)(d:Nat):fG:=Nat.rec (motive:=λ_=>fG) (λ_ _ _ _=>ab0) (λ_ b k args T Q=>match M k args with
  |some v=>Q v T
  |none=>a b k args T Q) d
def Aw(Φ:Z)(a:fG->fG):Prop:=∀B,jr Φ B->jr Φ (a B)
theorem PS{M:pz}{a:fG->fG}(c:h3 Φ M)(e:Aw Φ a):∀d,jr Φ (Av M a d):=by
 intro d;induction d with
 |zero=>intro k args T K h;cases h
 | succ d f=>
  intro k args T K h Q b;change (match M k args with
    |some v=>K v T
    |none=>a (Av M a d) k args T K)=abZ at h
  split at h
  . rename_i v hv;exact c k args v hv _ _ (b _ _ h)
  ·exact e _ f k args T K h Q b
theorem PT{B:fG}(b:jr Φ B){k:Nat}{a:List I}{K:I->Bool}(h:B k a TH.mt (λv _=>K v)=abZ):Φ k a O.mt (λv _=>K v=abZ):=by have:=b k a TH.mt _ h (λv _=>K v=abZ) (λv c h=>h);rwa [TH.Ps]at this
end
end Rb
namespace Rb
open Go
structure Hint where
 fp:Nat
 j1:List Nat
 loops:List (List Nat)
 fz:Option Nat
 hM:List TypeId:=[]
 lU:List (Nat×List Nat):=[]
def kz(t:Nat):List Nat->Bool
 |[]=>ab0
 |s::r=>cond (ab5 t s) abZ (kz t r)
def Fy:List Nat->List Nat->Bool
 |[],_=>abZ
 |t::r,l=>cond (kz t l) (Fy r l) ab0
def Ax(t:Nat)(l:List Nat):List Nat:=cond (kz t l) l (t::l)
def Fz:List Nat->List Nat->List Nat
 |[],l=>l
 |t::r,l=>Fz r (Ax t l)
def Ay:List Nat->List Nat->List Nat
 |[],_=>[]
 |t::r,l=>cond (kz t l) (Ay r l) (Ax t (Ay r l))
def uz:Value->I
 | .bool b=> .bool b
 | .int k n=> .int k n
 | .string s=> .str s.data.toList
 | .pointer ab2=> .ga
 | .nilFunc=> .ic
 | .nilIface=> .ie
 | .slice ab2 _ _=> .aj .nil 0 []
 |_=> .bot
def PU:Value->I
 | .agg Vs=> .agg (Vs.toList.map uz)
 | .tuple Vs=> .aH (Vs.toList.map uz)
 |V=>uz V
def Az:b7:= .k .bot
def hy:e_:= .ext .stuck []
def cV(C:Ctx):Operand->b7
 | .tmp t=> .t t
 | .const v=> .k (PU v)
 | .global g=>match C.GT g with|some l=> .k (.ak l)|none=>Az
 | .func f=>cond (lM C.P f) (.k (.fn f [])) Az
def FA:Operand->Bool
 | .const v=>(match v with | .pointer ab2 | .slice ab2 0 0 | .nilFunc | .nilIface=>abZ|_=>ab0)
 |_=>ab0
def jt(P:Program)(t:TypeId):Nat:=match P.info? t with|some i=>i.size|none=>0
def FB(P:Program)(t:TypeId):Nat:=match P.info? t with|some i=>i.bytes|none=>0
def PV(P:Program)(t:TypeId):Value:=match P.info? t with|some i=>(match i.zero with|some z=>z|none=> .nilIface)|none=> .nilIface
def uA(P:Program)(t:TypeId):List I:=(PV P t).cells.toList.map uz
def uB(P:Program)(t:TypeId):Bool:=match P.underlying t with|some d=>iQ d|none=>ab0
def lV(P:Program)(t:TypeId):TypeId:=match P.underlying t with|some (.slice e)=>e|some (.array _ e)=>e|_=>0
def PW(C:Ctx)(hM:List TypeId)(mu:Bool)(c:Call):e_:=
 match c.callee with
 | .value (.func f)=>cond (lM C.P f) (.call f (c.args.toList.map (cV C))) hy
 | .value f=> .jj (cV C f) (c.args.toList.map (cV C))
 | .builtin b=>
  match c.args.toList.map (cV C),c.argTypes.toList with
  | [x],[t]=>(match b with
    | .len=>(match C.P.underlying t with|some .string=> .len abZ x|some (.slice _)=> .len ab0 x|some (.array n _)=> .iO n|_=>hy)
    | .max=> .iP abZ [x]
    | .min=> .iP ab0 [x]
    |_=>hy)
  | [x,y],t::_=>(match b with
    | .append=> .append mu (jt C.P (lV C.P t)) (FB C.P (lV C.P t)) x y
    | .copy=> .copy (jt C.P (lV C.P t)) x y
    | .max=> .iP abZ [x,y]
    | .min=> .iP ab0 [x,y]
    |_=>hy)
  | xs,_=>(match b with
    | .max=> .iP abZ xs
    | .min=> .iP ab0 xs
    |_=>hy)
 |_=>hy
def PX(C:Ctx)(hM:List TypeId)(mu:Bool):Op->e_
 | .move x=> .mv (cV C x)
 | .assign x=> .mv (cV C x)
 | .pick c a b=> .pick (cV C c) (cV C a) (cV C b)
 | .binOp op t x y _=>
  match op,C.P.underlying t with
  | .eql,ab1 d=>(match m9 d,d with
    |some k,_=>cond (FA y) (.kk k ab0 (cV C x)) hy
    |none,.bool=> .beq ab0 (cV C x) (cV C y)
    |none,.array _ _=>(match lN C.P 9 t with|some l=> .jI ab0 l (cV C x) (cV C y)|none=>hy)
    |none,.struct _=>(match lN C.P 9 t with|some l=> .jI ab0 l (cV C x) (cV C y)|none=>hy)
    |none,_=> .bin op (cV C x) (cV C y))
  | .neq,ab1 d=>(match m9 d,d with
    |some k,_=>cond (FA y) (.kk k abZ (cV C x)) hy
    |none,.bool=> .beq abZ (cV C x) (cV C y)
    |none,.array _ _=>(match lN C.P 9 t with|some l=> .jI abZ l (cV C x) (cV C y)|none=>hy)
    |none,.struct _=>(match lN C.P 9 t with|some l=> .jI abZ l (cV C x) (cV C y)|none=>hy)
    |none,_=> .bin op (cV C x) (cV C y))
  |op,_=> .bin op (cV C x) (cV C y)
 | .unOp op _ x=> .un op (cV C x)
 | .convert s d x=>
  match C.P.underlying s,C.P.underlying d with
  |some .string,ab1 .string=> .same (cV C x)
  |some .string,ab1 (.slice _)=> .kP (cV C x)
  |some (.slice _),ab1 .string=> .jg (cV C x)
  |_,ab1 (.int k)=> .conv k (cV C x)
  |_,_=>hy
 | .nilCheck x=> .kM (cV C x)
 | .field t x n=>(match o6 C.P t n with|some f=> .field f.offset (jt C.P f.type) (uB C.P f.type) (cV C x)|none=>hy)
 | .fieldAddr t x n=>(match o6 C.P t n with|some f=> .kN f.offset (cV C x)|none=>hy)
 | .index t x i=>(match C.P.underlying t with
   |some .string=> .idxs (cV C x) (cV C i)
   |some (.array n e)=> .idx n (jt C.P e) (uB C.P e) (cV C x) (cV C i)
   |_=>hy)
 | .indexAddr t x i=>(match C.P.underlying t with
   |some (.slice e)=> .kl ab2 (jt C.P e) (cV C x) (cV C i)
   |some (.array n e)=> .kl (ab1 n) (jt C.P e) (cV C x) (cV C i)
   |_=>hy)
 | .slice t x lo hi mx=>(match C.P.underlying t with
   |some .string=> .kO (cV C x) (lo.map (cV C)) (hi.map (cV C))
   |some (.slice e)=> .slice (jt C.P e) (cV C x) (lo.map (cV C)) (hi.map (cV C)) (mx.map (cV C))
   |_=>hy)
 | .makeInterface t x=> .iN t (cV C x)
 | .makeFunc (.func f) first cB=>cond (lM C.P f) (match first.toList with
   |[]=> .ij f (cB.toList.map (cV C))
   |l=> .ij (f+1048576) (l.map (cV C))) hy
 | .extract x i=> .extract i (cV C x)
 | .build t ps=> .build (uA C.P t) (ps.toList.map λp=>match placeOf C.P t p.1 with|some (o,s)=>(o,s,cV C p.2)|none=>(0,0,Az))
 | .buildSlice t len ps=> .ik mu (jt C.P (lV C.P t)) len (uA C.P (lV C.P t)) (ps.toList.map λp=>(p.1*jt C.P (lV C.P t),jt C.P (lV C.P t),cV C p.2))
 | .load t x=> .load (jt C.P t) (uB C.P t) (cV C x)
 | .store t x v=> .store (jt C.P t) (cV C x) (cV C v)
 | .box t x=> .box mu (jt C.P t) (cV C x)
 | .alloc t=> .alloc mu (uA C.P t)
 | .makeSlice t l c=> .make mu (jt C.P (lV C.P t)) (FB C.P (lV C.P t)) (uA C.P (lV C.P t)) (cV C l) (cV C c)
 | .range _ x=> .jh (cV C x)
 | .next x abZ=> .ji (cV C x)
 | .call c=>PW C hM mu c
 |_=>hy
def FC:List Oper->Nat->Option Nat
 |[],_=>ab2
 |o::r,i=>match i with|0=>o.dst|i+1=>FC r i
def AA(C:Ctx)(hM:List TypeId)(j1:List Nat)(a:List Oper):List Oper->List cz
 |[]=>[]
 |o::r=>⟨o.dst,PX C hM (match o.dst with|some d=>kz d j1|none=>ab0) o.op,match o.guard with|some (j,want)=>(match FC a j with|some s=>ab1 (s,want)|none=>ab2)|none=>ab2⟩::AA C hM j1 a r
def AB:List Edge->List Nat
 |[]=>[]
 |e::r=>cond (Region.binds .any e) (Ax e.on (AB r)) (AB r)
def FD:List (List Nat)->Nat->List Nat
 |[],_=>[]
 |l::r,i=>match i with|0=>l|i+1=>FD r i
def FE:List (List Nat)->List Nat->List Nat->List Nat
 |pr,acc,[]=>acc
 |pr,acc,e::r=>FE pr (Fz (FD pr e) acc) r
def FF:List (List Nat)->List Oper->List (List Nat)
 |pr,[]=>pr
 |pr,o::r=>let es:=AB o.after.toList;FF (pr++[FE pr es es]) r
structure DR where
 i:Nat
 pr:List Nat
 k:Nat
 al:Bool
def FG(a:List cz)(pr:List (List Nat)):Nat->List cz->List (List Nat)->List DR
 |i,o::r,p::q=>⟨i,p,cond (ir o.op) 2 (cond (hN o.op) 1 0),jn a i⟩::FG a pr (i+1) r q
 |_,_,_=>[]
def pA:List DR->List Nat->List Nat->List Nat×List Nat
 |[],done,out=>(done,out.reverse)
 |d::r,done,out=>cond (ab5 d.k 0) (pA r done out) (cond (kz d.i done) (pA r done out) (cond (Fy d.pr done) (pA r (d.i::done) (d.i::out)) (pA r done out)))
def qX:List DR->List Nat->List Nat->List DR
 |[],_,_=>[]
 |d::r,pr,seq=>cond d.al (cond (kz d.i pr) (cond (kz d.i seq) (qX r pr seq) (d::qX r pr seq)) (qX r pr seq)) (qX r pr seq)
def uC(b:List DR):List DR->List Nat->List DR
 |[],seq=>b.filter λd=>d.al&&!kz d.i seq
 |d::r,seq=>cond (ab5 d.k 0) (cond d.al (uC b r seq) (let a:=qX b d.pr seq;a++d::uC b r (d.i::(a.map DR.i++seq)))) (uC b r seq)
def qY:List DR->List Nat->List Nat->List Nat
 |[],_,_=>[]
 |d::r,done,pr=>cond (ab5 d.k 1) (cond (kz d.i done) (cond (kz d.i pr) (qY r done pr) (d.i::qY r done pr)) (qY r done pr)) (qY r done pr)
def FH(a:List DR):List DR->List Nat->List (List Nat×Nat×List Nat)×List Nat
 |[],done=>([],(pA a done []).2)
 |e::r,done=>let s:=pA a done [];let q:=FH a r (e.i::s.1);((s.2,e.i,qY a s.1 e.pr)::q.1,q.2)
def PY(a:List Oper)(al:List cz):gD:=
 let pr:=FF [] a;let ds:=FG al pr 0 al pr;let p:=FH ds (uC ds ds []) []
 .draw al pr p.1 p.2
def PZ(t:Nat)(o:cz):Bool:=match o.op with | .mv (.t s)=>ab5 s t|_=>ab0
def isDst(l:List Nat)(o:cz):Bool:=match o.dst with|some d=>kz d l|none=>ab0
def AD:List (Nat×List Nat)->Nat->List Nat
 |[],_=>[]
 |(i,l)::r,id=>cond (ab5 i id) l (AD r id)
def AE:List Nat->gD->gD
 |[],c=>c
 |t::r,c=> .freeze t (AE r c)
def oc(C:Ctx)(hM:List TypeId)(j1:List Nat)(fz:Option Nat)(lU:List (Nat×List Nat))(d:List Nat):Code->List (List Nat)->gD×List (List Nat)
 | .skip,h=>(.skip,h)
 | .region id ops ab0,h=>
  let al:=AA C hM j1 ops.toList ops.toList
  (AE (AD lU id) (match fz with
    |none=> .region al
    |some t=>cond (al.any (PZ t)&&al.any (isDst d)) (.freeze t (.region al)) (.region al)),h)
 | .region id ops abZ,h=>(AE (AD lU id) (PY ops.toList (AA C hM j1 ops.toList ops.toList)),h)
 | .seq a b,h=>let p:=oc C hM j1 fz lU d a h;let q:=oc C hM j1 fz lU d b p.2;(.seq p.1 q.1,q.2)
 | .cond c a b,h=>let p:=oc C hM j1 fz lU d a h;let q:=oc C hM j1 fz lU d b p.2;(.cond (cV C c) p.1 q.1,q.2)
 | .block id a,h=>let p:=oc C hM j1 fz lU d a h;(.block id p.1,p.2)
 | .loop a,h=>let p:=oc C hM j1 fz lU d a h.tail;(.loop (h.headD []) (Ay (fb p.1) (h.headD [])) p.1,p.2)
 | .exit id,h=>(.exit id,h)
 | .ret,h=>(.ret,h)
 |_,h=>(.exit 0,h)
def AF:List ResultVar->List Nat
 |[]=>[]
 | .tmp t::r=>t::AF r
 | .cell t _::r=>t::AF r
def AG(P:Program):List ResultVar->List lG
 |[]=>[]
 | .tmp t::r=> .tmp t::AG P r
 | .cell t ty::r=> .cell t (jt P ty) (uB P ty)::AG P r
def bA(C:Ctx)(h:Hint):bn:=
 match C.P.funcs[h.fp]? with
 |some fn=>⟨fn.ntmps,AG C.P fn.results.toList,match fn.body with|some c=>(oc C h.hM h.j1 h.fz h.lU (AF fn.results.toList) c h.loops).1|none=> .skip⟩
 |none=>⟨0,[],.exit 0⟩
def mD(P:Program)(a:Nat->Option (List I)):Ctx:=⟨P,λk=>cond (lM P k) (ab1 k) ab2,a⟩
theorem FI(P:Program)(b:Nat->Option (List I)):kW (mD P b):=by
 intro key f hf;simp only[mD]at hf;cases a:lM P key with
 |true=>rw[a]at hf;simp only[cond_true,ZW.injEq]at hf;subst hf;exact a
 |false=>rw[a]at hf;cases hf
def iU(C:Ctx):List Hint->Bool
 |[]=>abZ
 |h::r=>and (pn C h.fp (bA C h)) (iU C r)
theorem FJ{C:Ctx}:∀{L:List Hint},iU C L=abZ->∀h,h∈L->pn C h.fp (bA C h)=abZ
 |[],_,h,hm=>by cases hm
 | p::r,hc,h,hm=>by
  simp only[iU,ZL]at hc;rcases List.mem_cons.1 hm with rfl|hm
  ·exact hc.1
  ·exact FJ hc.2 h hm
theorem pB{C:Ctx}:∀{L M:List Hint},iU C L=abZ->iU C M=abZ->iU C (L++M)=abZ
 |[],_,_,h=>h
 | p::r,M,hc,h=>by simp only[iU,ZL]at hc;simp only[List.cons_append,iU,ZL];exact⟨hc.1,pB hc.2 h⟩
noncomputable section
abbrev uD:=bn
def uE(a:Nat->Option uD)(B:fG):fG:=λk args T Q=>match a k with
 |some c=>Ar B 4096 c args T Q
 |none=>ab0
def qZ(C:Ctx)(fuel:Nat):List Hint->Nat->Option uD
 |[],_=>ab2
 |h::r,k=>cond (ab5 h.fp k) (ab1 (bA C h)) (qZ C fuel r k)
theorem FL{C:Ctx}{fuel:Nat}:∀{L:List Hint}{k:Nat}{c:uD},qZ C fuel L k=ab1 c->∃h,h∈L/\h.fp=k/\c=bA C h
 |[],_,_,h=>by cases h
 | p::r,k,c,h=>by
  unfold qZ at h;cases a:ab5 p.fp k with
  | true=>rw[a]at h;simp only[cond_true,ZW.injEq]at h;exact⟨p,List.mem_cons_self,acb a,h.symm⟩
  | false=>rw[a]at h;obtain⟨f,hf,hc⟩:=FL (L:=r) h;exact⟨f,List.mem_cons_of_mem _ hf,hc⟩
theorem P0{P:Program}{a:Nat->Option (List I)}{L:List Hint}(d:iU (mD P a) L=abZ)(fuel:Nat):Aw (ag (mD P a)) (uE (qZ (mD P a) fuel L)):=by
 intro B e k args T K h Q g;unfold uE at h;split at h
 . rename_i c hc;obtain⟨hi,hm,hk,rfl⟩:=FL hc;have hs:qI (ag (mD P a)) (bA (mD P a) hi) args T.ah Q:=Fi (tP _) (PR e h g);refine⟨El (ED _) hs,λf hf G w Vs i j l=>?_⟩;have m:f=k:=by
    simp only[mD]at hf;cases b:lM P k with
    |true=>rw[b]at hf;simpa using hf.symm
    |false=>rw[b]at hf;cases hf
   subst m;exact E3 (FI P a) (by rw[<-hk];exact FJ d _ hm) hs i j l
 ·cases h
end
noncomputable section
def forced(b:Bool):Bool:=Bool.rec (motive:=λ_=>Bool) ab0 abZ b
theorem P1(b:Bool):forced b=b:=by cases b<;>rfl
theorem ea{b:Bool}(h:forced b=abZ):b=abZ:=by rwa [P1]at h
def hz:List (Nat×List I×I)->pz
 |[],_,_=>ab2
 |e::r,k,args=>cond (ab5 e.1 k) (cond (I.hr e.2.1 args) (ab1 e.2.2) (hz r k args)) (hz r k args)
theorem AJ{Φ:Z}:h3 Φ (hz []):=λ_ _ _ h=>by cases h
end
variable{C:Ctx}{key:Nat}{H:O}{Q:ab}
mutual
def I.eB:I->I
 | .ak cs=> .ak (I.dh cs)
 | .aj _ len cs=> .aj .dead len (I.dh cs)
 | .fn k cs=> .fn k (I.dh cs)
 | .iface t v=> .iface t (I.eB v)
 | .agg cs=> .agg (I.dh cs)
 | .aH cs=> .aH (I.dh cs)
 |v=>v
def I.dh:List I->List I
 |[]=>[]
 |c::r=>I.eB c::I.dh r
end
theorem od:∀cs:List I,I.dh cs=cs.map I.eB
 |[]=>rfl
 |c::r=>by rw[I.dh,od r];rfl
theorem nj{cs:List I}{j:Nat}{c:I}(h:(I.dh cs)[j]?=ab1 c):∃d,cs[j]?=ab1 d/\c=d.eB:=by
 rw[od,List.getElem?_map]at h;cases hc:cs[j]? with
 |none=>rw[hc]at h;cases h
 |some d=>rw[hc]at h;simp at h;exact⟨d,rfl,h.symm⟩
theorem uF(cs:List I):(I.dh cs).length=cs.length:=by rw[od,List.length_map]
theorem VR.eB{F:el}{w:World}{G:ch}{c:I}{V:Value}(h:VR F w G c V):VR F w G c.eB V:=by
 induction h with
 |bot V=>exact .bot V
 |bool b=>exact .bool b
 |int k n=>exact .int k n
 |str s=>exact .str s
 |ga=>exact .ga
 |ptr id off h=>exact .ptr id off h
 | ak cells b o Vs h _ g=>
  refine .ak _ b o Vs (λj c i=>?_) λj c i=>?_
  ·obtain⟨d,e,rfl⟩:=nj i;exact h j d e
  ·obtain⟨d,e,rfl⟩:=nj i;exact g j d e
 |hY=>exact .gp ab2 0
 |gp a cap=>exact .gp a cap
 | aj tk len cells b o cap Vs ht hle h _ g=>
  refine .aj .dead len _ b o cap Vs trivial hle (λj c i=>?_) λj c i=>?_
  ·obtain⟨d,e,rfl⟩:=nj i;exact h j d e
  ·obtain⟨d,e,rfl⟩:=nj i;exact g j d e
 |row id off len sz cap h hle hc=>exact .row id off len sz cap h hle hc
 | fn key cB f Vs hk hf hl _ g=>refine .fn key _ f Vs hk hf (by rw[uF];exact hl) λj c V hc l=>?_;obtain⟨d,e,rfl⟩:=nj hc;exact g j d V e l
 |ic=>exact .ic
 |iface t v V _ g=>exact .iface t _ V g
 |ie=>exact .ie
 | agg cs Vs hl _ g=>refine .agg _ Vs (by rw[uF];exact hl) λj c V hc l=>?_;obtain⟨d,e,rfl⟩:=nj hc;exact g j d V e l
 | aH cs Vs hl _ g=>refine .aH _ Vs (by rw[uF];exact hl) λj c V hc l=>?_;obtain⟨d,e,rfl⟩:=nj hc;exact g j d V e l
theorem ag.eB{a:List I}(h:ag C key a H (λv H'=>Q v.eB H')):ag C key a H Q:=by refine⟨by obtain⟨v,H',b⟩:=h.1;exact⟨_,_,b⟩,λf hf G w Vs c d g=>?_⟩;refine abw (h.2 f hf G w Vs c d g) λe R he=>?_;obtain⟨V,v,H',G',e1,i,hv,r⟩:=he;exact⟨V,v.eB,H',G',e1,i,hv.eB,r⟩
theorem ag.q0{a:List I}(h:ag C key (I.dh a) H Q):ag C key a H Q:=by refine⟨h.1,λf hf G w Vs e g b=>?_⟩;refine h.2 f hf G w Vs e g ⟨by rw[uF];exact b.1,λj c V hc i=>?_⟩;obtain⟨d,k,rfl⟩:=nj hc;exact(b.2 j d V k i).eB
end Rb
namespace Rb
open Go
variable{C:Ctx}{B:fG}
noncomputable section
def q1:List (List I×I)->List I->Option I
 |[],_=>ab2
 |e::r,a=>cond (I.hr e.1 a) (ab1 e.2) (q1 r a)
def pC(k:Nat):List (Nat×List I×I)->List (List I×I)
 |[]=>[]
 |e::r=>cond (ab5 e.1 k) ((e.2.1,e.2.2)::pC k r) (pC k r)
theorem FM(k:Nat)(a:List I):∀L:List (Nat×List I×I),q1 (pC k L) a=hz L k a
 |[]=>rfl
 | e::r=>by
  have b:=FM k a r;unfold pC hz;cases ab5 e.1 k with
  |false=>exact b
  | true=>
   simp only[cond_true,q1];cases I.hr e.2.1 a with
   |false=>exact b
   |true=>rfl
def AK(L:List (Nat×List I×I)):pz:=λk args=>match pC k L with
 |[]=>ab2
 |l=>q1 l (I.dh args)
theorem P2{L:List (Nat×List I×I)}(h:h3 (ag C) (hz L)):h3 (ag C) (AK L):=by
 intro k args v hm H Q a;have:q1 (pC k L) (I.dh args)=ab1 v:=by
  unfold AK at hm;split at hm
  ·cases hm
  ·exact hm
 rw[FM]at this;exact ag.q0 (h k _ v this H Q a)
theorem P3(ar:cY C)(b:jr (ag C) B){k:Nat}{a:List I}{v:I}(c:I.cD a=abZ)(hv:v.cj=abZ)(h:B k a TH.mt (λu _=>u.eB.same v)=abZ)(H:O)(Q:ab)(d:Q v H):ag C k a H Q:=ag.Fx ar (ag.eB (Q:=λu _=>u.same v=abZ) (PT b (K:=λu=>u.eB.same v) h)) c H Q λu _ hu=>by rw[I.uf _ _ hu];exact⟨hv,d⟩
def AL(B:fG)(e:Nat×List I×I):Bool:=and (I.cD e.2.1) (and e.2.2.cj (B e.1 e.2.1 TH.mt (λu _=>u.eB.same e.2.2)))
def lW(B:fG):List (Nat×List I×I)->Bool
 |[]=>abZ
 |e::r=>and (AL B e) (lW B r)
theorem P4(ar:cY C)(f:jr (ag C) B){e:Nat×List I×I}{L:List (Nat×List I×I)}(h:AL B e=abZ)(c:h3 (ag C) (hz L)):h3 (ag C) (hz (e::L)):=by
 obtain⟨d,a0,v0⟩:=e;simp only[AL,ZL]at h;obtain⟨U,g,i⟩:=h;intro k args v hm H Q a;unfold hz at hm;dsimp only at hm;cases b:ab5 d k with
 |false=>rw[b]at hm;exact c k args v hm H Q a
 | true=>
  rw[b]at hm;obtain rfl:=acb b;cases hs:I.hr a0 args with
  |false=>rw[hs]at hm;exact c d args v hm H Q a
  | true=>rw[hs]at hm;simp only[cond_true,ZW.injEq]at hm;subst hm;obtain rfl:=I.n9 _ _ hs;exact P3 ar f U g i H Q a
theorem nk{C:Ctx}(ar:cY C){B:fG}(a:jr (ag C) B){L:List (Nat×List I×I)}(b:h3 (ag C) (hz L)):∀{N:List (Nat×List I×I)},lW B N=abZ->h3 (ag C) (hz (N++L))
 |[],_=>b
 | e::N,h=>by simp only[lW,ZL]at h;exact P4 ar a h.1 (nk ar a b h.2)
end
end Rb
namespace Rb
open Go
def q2:List Int:=[1,10,100,1000,10000,100000,1000000,10000000,100000000,1000000000,10000000000,100000000000,1000000000000,10000000000000,100000000000000,1000000000000000,10000000000000000,100000000000000000,1000000000000000000,10000000000000000000]
def FN:List I:=q2.map (I.int .u64)
end Rb
end
