/- A part of the proof (part 5): see the last text. -/
import Derived.Test.YtbjhdakiiedmcaaGreatDoorRb4
import Derived.SizedLaws
import Derived.Test.YtbjhdakiiedmcaaGreatDoorRb2
import Derived.Lib.DecodeN
set_option linter.unusedVariables false
set_option linter.unusedSimpArgs false
set_option linter.unusedSectionVars false
namespace Rb
open Go
structure aC where
 kind:Int
 line:Int
 name:List UInt8
 cW:List UInt8
 order:Int
 place:aT
 exprs:List aF
 aZ:List aC
 bz:List aC
mutual
def aC.cells:aC→List AV
 | .mk kind line name cW order place exprs aZ bz=> .int .i64 kind :: .int .i64 line :: .str name :: .str cW :: .int .i64 order::(aT.cells place++[aQ aF.cells exprs,.aq .dead aZ.length (aC.all aZ),.aq .dead bz.length (aC.all bz)])
def aC.all:List aC→List AV
 |[]=>[]
 |x::r=>aC.cells x++aC.all r
end
theorem aC.all_eq:∀xs:List aC,aC.all xs=xs.flatMap aC.cells
 |[]=>rfl
 |x::r=>by rw[aC.all,aC.all_eq r,List.flatMap_cons]
theorem aC.bf(x:aC):x.cells = .int .i64 x.kind :: .int .i64 x.line :: .str x.name :: .str x.cW :: .int .i64 x.order::(x.place.cells++[aQ aF.cells x.exprs,aQ aC.cells x.aZ,aQ aC.cells x.bz]):=by cases x;simp only[aC.cells,aC.all_eq,aQ]
theorem aC.len(x:aC):x.cells.length=10:=by rw[aC.bf];simp[aT.len]
mutual
def aC.ok:aC→Prop
 | .mk kind line name cW order place exprs aZ bz=>uB kind∧uB line∧name.length≤140737488351232∧cW.length≤140737488351232∧uB order∧aT.ok place∧exprs.length≤maxLen∧aF.i7 exprs∧aZ.length≤maxLen∧aC.i7 aZ∧bz.length≤maxLen∧aC.i7 bz
def aC.i7:List aC→Prop
 |[]=>True
 |x::r=>aC.ok x∧aC.i7 r
end
theorem aC.iW:∀{xs:List aC},aC.i7 xs↔∀x∈xs,x.ok
 |[]=>by simp[aC.i7]
 |x::r=>by simp[aC.i7,aC.iW (xs:=r)]
structure jT where
 vars:List aK
 threads:List (List aC)
def oW(l:List aC):List AV:=[aQ aC.cells l]
def jT.cells(x:jT):List AV:=[aQ aK.cells x.vars,aQ oW x.threads]
def jT.ok(x:jT):Prop:=(x.vars.length≤maxLen∧∀v∈x.vars,v.ok)∧x.threads.length≤maxLen∧∀t∈x.threads,t.length≤maxLen∧∀s∈t,s.ok
section
variable{H:Type}{enc:TypeId×Value→H}{P:Program}{w:World}{sp:Nat→Bool}{held:Bool}{F:eG}
theorem aom{ts tT tV:TypeId}{fV:Array Field}(hs:P.underlying ts=some .string)(c3:P.cellsOf ts=1)(cT:P.cellsOf tT=6)(hT:∀n,bY F enc P w sp held n tT aE.cells aE.ok)
  (hV:P.underlying tV=some (.struct fV)) (lV:fV.toList.map (fun f=>(f.type,f.offset))=[(ts,0),(tT,1)]) (cV:P.cellsOf tV=7):∀n,bY F enc P w sp held n tV aK.cells aK.ok:=by
 intro n;refine bY.mono (n:=n+1) ?_ (Nat.le_succ n);refine bY.map (fun(x:List UInt8×aE×Unit)=>(⟨x.1,x.2.1⟩:aK)) (fun x=>?_) (fun x hx=>?_)
  (bY.struct hV lV (by simp[uv,c3]) (by simp[rr,c3,cT,cV]) (fh.cons (bY.string hs) (fh.cons (hT n) fh.nil)))
 ·simp[aK.cells]
 ·exact⟨hx.1,hx.2.1⟩
theorem anm{ti tu ts tE tL tR sE sR tS sS:TypeId}{fE fL fR fS:Array Field}(h:VW P ti tu ts tE tL tR sE sR fE fL fR)(hS:P.underlying tS=some (.struct fS))(Y8:P.underlying sS=some (.slice tS))
  (lS:fS.toList.map (fun f=>(f.type,f.offset))=[(ti,0),(ti,1),(ts,2),(ts,3),(ti,4),(tL,5),(sE,7),(sS,8),(sS,9)]) (cS:P.cellsOf tS=10) (Ri:P.cellsOf sS=1) :
  ∀n,bY F enc P w sp held n tS aC.cells aC.ok:=by
 have c1:P.cellsOf ti=1:=h.c1 _ (by simp);have c3:P.cellsOf ts=1:=h.c1 _ (by simp);have c4:P.cellsOf sE=1:=h.c1 _ (by simp);intro n;induction n with
 |zero=>exact bY.zero
 | succ n ih=>
  have kE:=bY.mono (bY.slice h.slE h.cE (by decide) aF.len (aas (F:=F) (enc:=enc) (w:=w) (sp:=sp) (held:=held) h n).1) (Nat.le_succ n);have kS:=bY.mono (bY.slice Y8 cS (by decide) aC.len ih) (Nat.le_succ n);refine bY.map (fun(x:Int×Int×List UInt8×List UInt8×Int×aT×List aF×List aC×List aC×Unit)=>(⟨x.1,x.2.1,x.2.2.1,x.2.2.2.1,x.2.2.2.2.1,x.2.2.2.2.2.1,x.2.2.2.2.2.2.1,x.2.2.2.2.2.2.2.1,x.2.2.2.2.2.2.2.2.1⟩:aC)) (fun x=>?_) (fun x hx=>?_)
   (bY.struct hS lS (by simp[uv,c1,c3,c4,Ri,h.cL]) (by simp[rr,c1,c3,c4,Ri,h.cL,cS])
     (fh.cons (bY.i64 h.int) (fh.cons (bY.i64 h.int) (fh.cons (bY.string h.str) (fh.cons (bY.string h.str) (fh.cons (bY.i64 h.int) (fh.cons (aas h n).2.1 (fh.cons kE (fh.cons kS (fh.cons kS fh.nil))))))))))
  ·rw[aC.bf];simp
  · obtain⟨h1,h2,h3,h4,h5,h6,⟨h7,h8⟩,⟨h9,nD⟩,⟨mW,ju⟩,_⟩:=hx;exact⟨h1,h2,h3,h4,h5,h6,h7,aF.iW.2 h8,h9,aC.iW.2 nD,mW,aC.iW.2 ju⟩
theorem anl{tV sV tS sS R0 tP:TypeId}{fP:Array Field}(hV:∀n,bY F enc P w sp held n tV aK.cells aK.ok)(hS:∀n,bY F enc P w sp held n tS aC.cells aC.ok)
  (slV:P.underlying sV=some (.slice tV)) (Y8:P.underlying sS=some (.slice tS)) (aya:P.underlying R0=some (.slice sS)) (cV:P.cellsOf tV=7) (cS:P.cellsOf tS=10) (Ri:P.cellsOf sS=1) (csV:P.cellsOf sV=1) (awx:P.cellsOf R0=1)
  (hP:P.underlying tP=some (.struct fP)) (lP:fP.toList.map (fun f=>(f.type,f.offset))=[(sV,0),(R0,1)]) (cP:P.cellsOf tP=2):∀n,bY F enc P w sp held n tP jT.cells jT.ok:=by
 intro n;refine bY.mono (n:=n+2+1) ?_ (by omega);have k1:bY F enc P w sp held (n+2) sV (fun xs:List aK=>[aQ aK.cells xs]) (fun xs=>xs.length≤maxLen∧∀x∈xs,x.ok):=bY.slice slV cV (by decide) aK.len (hV (n+1));have k2:bY F enc P w sp held (n+1) sS oW (fun xs=>xs.length≤maxLen∧∀x∈xs,x.ok):=bY.slice Y8 cS (by decide) aC.len (hS n);have k3:bY F enc P w sp held (n+2) R0 (fun xs:List (List aC)=>[aQ oW xs]) (fun xs=>xs.length≤maxLen∧∀x∈xs,x.length≤maxLen∧∀y∈x,y.ok):=bY.slice aya Ri (by decide) (fun _=>rfl) k2;refine bY.map (fun(x:List aK×List (List aC)×Unit)=>(⟨x.1,x.2.1⟩:jT)) (fun x=>?_) (fun x hx=>?_)
  (bY.struct hP lP (by simp[uv,csV]) (by simp[rr,csV,awx,cP]) (fh.cons k1 (fh.cons k3 fh.nil)))
 ·simp[jT.cells]
 ·exact⟨hx.1,hx.2.1⟩
end
end Rb

namespace Rb
open Go Go.RowKit
section
variable{H:Type}{enc:TypeId×Value→H}{P:Program}{w:World}{sp:Nat→Bool}{held:Bool}{F:eG}{G:cc}
end
end Rb

namespace Rb
open Go Go.RowKit
section
variable{H:Type}{enc:TypeId×Value→H}{P:Program}{w:World}{sp:Nat→Bool}{held:Bool}{F:eG}
def jT.GU(p:jT):Prop:=p.ok∧p.threads.length≤140737488355328∧∀t∈p.threads,t.length≤140737488355328
end
end Rb

namespace Rb
open Go
@[simp] theorem aa {α:Type} (a:α) (K:α→Prop):Do (some a) K↔K a:=⟨fun⟨b,h,k⟩=>by cases h;exact k,fun h=>⟨a,rfl,h⟩⟩
@[simp] theorem bw (v:AV) (H:AH) (K:ae):aJ (some (v,H)) K↔K v H:=⟨fun⟨a,b,h,k⟩=>by cases h;exact k,fun h=>⟨v,H,rfl,h⟩⟩
@[simp] theorem aD (b:Bool) (A B:Prop):Gd (.bool b) true A B↔if b=true then A else B:=Iff.rfl
@[simp] theorem aCd (b:Bool) (A B:Prop):Gd (.bool b) false A B↔if b=false then A else B:=Iff.rfl
@[simp] theorem aG (K:List AV→AH→Prop) (st:List AV) (H:AH):ak K st H↔K st H:=Iff.rfl
@[simp] theorem aA (a:AV) (l:List AV):sl (a::l) 0=a:=rfl
@[simp] theorem cv (a:AV) (l:List AV) (i:Nat):sl (a::l) (i+1)=sl l i:=rfl
section
variable(k:IntKind)(a b:Int)
@[simp] theorem cp:ai .add (.int k a) (.int k b)=some (.int k (k.wrap (a+b))):=by simp[ai,dV]
@[simp] theorem nM:ai .sub (.int k a) (.int k b)=some (.int k (k.wrap (a-b))):=by simp[ai,dV]
@[simp] theorem m7:ai .mul (.int k a) (.int k b)=some (.int k (k.wrap (a*b))):=by simp[ai,dV]
@[simp] theorem cn:ai .eql (.int k a) (.int k b)=some (.bool (a==b)):=by simp[ai,dV]
@[simp] theorem eK:ai .neq (.int k a) (.int k b)=some (.bool (a != b)):=by simp[ai,dV]
@[simp] theorem bF:ai .lss (.int k a) (.int k b)=some (.bool (decide (a<b))):=by simp[ai,dV]
@[simp] theorem mL:ai .leq (.int k a) (.int k b)=some (.bool (decide (a≤b))):=by simp[ai,dV]
@[simp] theorem eY:ai .gtr (.int k a) (.int k b)=some (.bool (decide (a>b))):=by simp[ai,dV]
@[simp] theorem kG:ai .geq (.int k a) (.int k b)=some (.bool (decide (a≥b))):=by simp[ai,dV]
theorem vi(h:b≠0):ai .rem (.int k a) (.int k b)=some (.int k (a.tmod b)):=by simp[ai,dV,h]
theorem wQ(h:b≠0):ai .quo (.int k a) (.int k b)=some (.int k (k.wrap (a.tdiv b))):=by simp[ai,dV,h]
@[simp] theorem anr:ai .and (.int k a) (.int k b)=some (.int k (k.wrap (BitVec.ofInt k.bits a &&& BitVec.ofInt k.bits b).toNat)):=by simp[ai,dV,vp]
@[simp] theorem aCk:ai .or (.int k a) (.int k b)=some (.int k (k.wrap (BitVec.ofInt k.bits a ||| BitVec.ofInt k.bits b).toNat)):=by simp[ai,dV,vp]
@[simp] theorem aCe:ai .xor (.int k a) (.int k b)=some (.int k (k.wrap (BitVec.ofInt k.bits a ^^^ BitVec.ofInt k.bits b).toNat)):=by simp[ai,dV,vp]
theorem aaW(k':IntKind)(h:0≤b):ai .shl (.int k a) (.int k' b)=some (.int k (k.wrap (a*2^(min b.toNat k.bits)))):=by simp[ai,dV,Int.not_lt.2 h]
@[simp] theorem vg (k':IntKind):my k' (.int k a)=some (.int k' (k'.wrap a)):=rfl
@[simp] theorem anq (neg:Bool) (x y:Bool):uF neg (.bool x) (.bool y)=some (.bool (if neg then !(x==y)else x==y)):=rfl
@[simp] theorem gk (x:Bool):eB .not (.bool x)=some (.bool !x):=rfl
end
@[simp] theorem aCf (tk:Tok) (n:Nat) (cs:List AV):br false (.aq tk n cs)=some (.int .i64 n):=rfl
@[simp] theorem aCg (id o n sz:Nat):br false (.row id o n sz)=some (.int .i64 n):=rfl
@[simp] theorem DV (s:List UInt8):br true (.str s)=some (.int .i64 s.length):=rfl
end Rb

namespace Rb
open Go
def AH.Ext(H H':AH):Prop:=H.n≤H'.n∧∀i,i<H.n→H'.o i=H.o i
theorem AH.Ext.refl(H:AH):AH.Ext H H:=⟨Nat.le_refl _,fun _ _=>rfl⟩
theorem AH.Ext.trans{a b c:AH}(h:AH.Ext a b)(k:AH.Ext b c):AH.Ext a c:=⟨Nat.le_trans h.1 k.1,fun i hi=>(k.2 i (Nat.lt_of_lt_of_le hi h.1)).trans (h.2 i hi)⟩
theorem AH.Ext.push(H:AH)(x:dc):AH.Ext H (H.push x):=⟨Nat.le_succ _,fun i hi=>if_neg (Nat.ne_of_lt hi)⟩
theorem AH.Ext.set{H H':AH}(h:AH.Ext H H'){i:Nat}(hi:H.n≤i)(x:dc):AH.Ext H (H'.set i x):=⟨h.1,fun j hj=>by simp only[AH.set];rw[if_neg (by omega)];exact h.2 j hj⟩
@[simp] theorem AH.aCr (H:AH) (x:dc):(H.push x).n=H.n+1:=rfl
@[simp] theorem AH.aCG (H:AH) (i:Nat) (x:dc):(H.set i x).n=H.n:=rfl
theorem AH.DQ(H:AH)(x:dc):(H.push x).o H.n=x:=if_pos rfl
theorem AH.aqh(H:AH)(x:dc){i:Nat}(h:i≠H.n):(H.push x).o i=H.o i:=if_neg h
theorem AH.aod(H:AH)(i:Nat)(x:dc):(H.set i x).o i=x:=if_pos rfl
theorem AH.dq(H:AH){i j:Nat}(x:dc)(h:j≠i):(H.set i x).o j=H.o j:=if_neg h
theorem wrap_i64{n:Int}(h1 : -9223372036854775808≤n)(h2:n≤9223372036854775807):IntKind.wrap .i64 n=n:=by simp[IntKind.wrap,IntKind.signed,IntKind.bits];omega
theorem wrap_u8{n:Int}(h1:0≤n)(h2:n<256):IntKind.wrap .u8 n=n:=by simp[IntKind.wrap,IntKind.signed,IntKind.bits];omega
def pI(H0 H:AH)(sz:Nat)(x:AV)(len:Nat)(cells:List AV):Prop:=AH.Ext H0 H∧∃tk,x = .aq tk len cells∧cells.length=len*sz∧((tk = .nil∧len=0)∨∃t,tk = .own t∧H0.n≤t∧t<H.n∧H.o t = .tok (len*sz) sz)
theorem pI.nil(H:AH)(sz:Nat):pI H H sz (.aq .nil 0 []) 0 []:=⟨AH.Ext.refl H,.nil,rfl,by simp,.inl ⟨rfl,rfl⟩⟩
theorem pI.append{H0 H:AH}{sz bytes len m:Nat}{x y:AV}{cells news:List AV}{K:ae}(h:pI H0 H sz x len cells)(hy:mM H sz y=some (m,news))(hn:news.length=m*sz)(hs:news.all AV.scalar=true)(hm:m≠0)
  (hb:(len+m)*bytes≤140737488355328) (hl:len+m≤9223372036854775807) (hK:∀x' H',pI H0 H' sz x' (len+m) (cells++news)→K x' H'):aJ (eF H false sz bytes x y) K:=by
 obtain⟨hx,tk,rfl,hc,gD⟩:=h;have hlen:(cells++news).length=(len+m)*sz:=by simp[hc,hn,Nat.add_mul]
 rcases gD with⟨rfl,rfl⟩|⟨t,rfl,h1,h2,h3⟩
 · refine⟨.aq (.own H.n) (0+m) (cells++news),H.push (.tok ((0+m)*sz) sz),?_,hK _ _ ⟨hx.trans (AH.Ext.push _ _),_,rfl,hlen,.inr ⟨H.n,rfl,hx.1,Nat.lt_succ_self _,AH.DQ _ _⟩⟩⟩;simp only[eF,hy,hs,not_true_eq_false,if_false,if_neg hm];rw[if_neg (by simp only[Decidable.not_not];exact⟨hc,hb,hl⟩)]
 · refine⟨.aq (.own H.n) (len+m) (cells++news),(H.set t .gone).push (.tok ((len+m)*sz) sz),?_,hK _ _ ⟨(hx.set h1 _).trans (AH.Ext.push _ _),_,rfl,hlen,.inr ⟨H.n,rfl,hx.1,Nat.lt_succ_self _,AH.DQ _ _⟩⟩⟩;simp only[eF,hy,hs,not_true_eq_false,if_false,if_neg hm];rw[if_neg (by simp only[Decidable.not_not];exact⟨hc,hb,hl⟩)];simp[h3]
def At(H:AH)(id:Nat)(x:dc):Prop:=id<H.n∧H.o id=x
theorem At.new(H:AH)(x:dc):At (H.push x) H.n x:=⟨Nat.lt_succ_self _,AH.DQ H x⟩
theorem At.ext{H H':AH}{id:Nat}{x:dc}(h:At H id x)(hE:AH.Ext H H'):At H' id x:=⟨Nat.lt_of_lt_of_le h.1 hE.1,(hE.2 id h.1).trans h.2⟩
theorem At.push{H:AH}{id:Nat}{x:dc}(h:At H id x)(y:dc):At (H.push y) id x:=h.ext (AH.Ext.push H y)
theorem At.dq{H:AH}{id i:Nat}{x:dc}(h:At H id x)(bU:id≠i)(y:dc):At (H.set i y) id x:=⟨h.1,(AH.dq H y bU).trans h.2⟩
theorem At.set{H:AH}{id:Nat}{x:dc}(h:At H id x)(y:dc):At (H.set id y) id y:=⟨h.1,AH.aod H id y⟩
theorem At.ne{H:AH}{id i:Nat}{x y:dc}(h:At H id x)(k:At H i y)(hxy:x≠y):id≠i:=fun e=>hxy (by rw[←h.2,←k.2,e])
theorem At.qR{H:AH}{id:Nat}{x:dc}(h:At H id x):id≠H.n:=Nat.ne_of_lt h.1
theorem At.load{H:AH}{id:Nat}{cs:List AV}(h:At H id (.row cs))(n o:Nat)(agg:Bool):J H n agg (.ptr id o)=cC cs o n agg:=by simp[J,h.2]
theorem At.store{H:AH}{id:Nat}{cs:List AV}(h:At H id (.row cs))(n o:Nat)(v:AV):aH H n (.ptr id o) v=if v.known∧v.cells.length=n∧v.cells.all AV.scalar∧o+n≤cs.length then some (H.set id (.row (setCells cs o v.cells)))else none:=by simp[aH,h.2]
end Rb

namespace Rb
open Go
@[simp] theorem ck (b:Bool) (A B C:Prop):aL (.bool b) true A B C↔if b=true then A else B:=Iff.rfl
@[simp] theorem cj (b:Bool) (A B C:Prop):aL (.bool b) false A B C↔if b=false then A else B:=Iff.rfl
@[simp] theorem aCi (want:Bool) (A B C:Prop):aL (.aM []) want A B C↔C:=Iff.rfl
theorem aN{c:Prop}[Decidable c]{A B:Prop}(h1:c→A)(h2:¬c→B):if c then A else B:=by
 split
 ·exact h1 ‹_›
 ·exact h2 ‹_›
theorem fe{α:Type}{xs:List α}{i:Nat}(h:xs.drop i=[]):xs.length≤i:=by simpa using h
theorem eX{α:Type}{xs ys:List α}{i:Nat}{y:α}(h:xs.drop i=y::ys):i<xs.length∧xs[i]?=some y∧xs.drop (i+1)=ys:=by
 have aO:i<xs.length:=by
  rcases Nat.lt_or_ge i xs.length with h'|h'
  ·exact h'
  ·rw[List.drop_eq_nil_of_le h']at h;cases h
 refine⟨aO,?_,?_⟩
 · have:=congrArg (fun l=>l[0]?) h;simpa using this
 · have:=congrArg List.tail h;simpa using this
end Rb

namespace Rb
open Go
section
variable{α:Type}{cells:α→List AV}{sz:Nat}
theorem sU(hc:∀x,(cells x).length=sz):∀(xs:List α)(i:Nat),(xs.flatMap cells).drop (i*sz)=(xs.drop i).flatMap cells:=by
 intro xs i;induction i generalizing xs with
 |zero=>simp
 | succ i ih=>
  cases xs with
  |nil=>simp
  | cons x xs=>rw[List.flatMap_cons,List.drop_succ_cons,←ih];rw[show(i+1)*sz=(cells x).length+i*sz by rw[hc,Nat.add_mul,Nat.one_mul,Nat.add_comm],←List.drop_drop,List.drop_left]
theorem ak3(hc:∀x,(cells x).length=sz)(xs:List α):(xs.flatMap cells).length=xs.length*sz:=by
 induction xs with
 |nil=>simp
 |cons x xs ih=>rw[List.flatMap_cons,List.length_append,ih,hc,List.length_cons,Nat.add_mul];omega
def iB(cells:α→List AV)(sz:Nat)(xs:List α)(i:Nat):AV:= .av ((xs.flatMap cells).drop (i*sz))
theorem d_{xs:List α}{i:Nat}(hi:i<xs.length):bj none sz (aQ cells xs) (.int .i64 i)=some (iB cells sz xs i):=by simp only[aQ,bj];rw[if_pos ⟨by omega,by omega⟩];rfl
theorem gO(hc:∀x,(cells x).length=sz)(hz:0<sz)(H:AH){xs:List α}{i:Nat}{x:α}(hx:xs[i]?=some x):J H sz true (iB cells sz xs i)=some (.agg (cells x)):=by
 have aO:=(List.getElem?_eq_some_iff.1 hx).1;have hd:xs.drop i=x::xs.drop (i+1):=by rw[List.drop_eq_getElem_cons aO];rw[List.getElem?_eq_getElem aO]at hx;simp at hx;rw[hx]
 show cC ((xs.flatMap cells).drop (i*sz)) 0 sz true=_;rw[sU hc,hd,List.flatMap_cons];unfold cC;rw[if_pos (by rw[List.length_append,hc];omega)];simp only[if_true,List.drop_zero];rw[List.take_append_of_le_length (by rw[hc];omega),List.take_of_length_le (by rw[hc];omega)]
def LY(sz:Nat)(Φ:aj)(a0:AV)(a1:AV)(x1:AV)(Q:ae):(List AV×AH)→((List AV×AH)→Prop)→Prop:=fun s2 L3=>
 Do (ai .lss (sl s2.1 0) x1) fun x4=>
 Gd x4 true (
 Do (bj none sz a0 (sl s2.1 0)) fun x5=>
 Do (J s2.2 sz true x5) fun x6=>
 ∃k9 su,a1 = .fn k9 su∧Φ (uI k9) (uA k9 [x6] su) s2.2 fun x7 H8=>
 Gd x7 true (
 Q (sl s2.1 0) H8) (
 Do (ai .add (sl s2.1 0) (.int .i64 1)) fun bH=>
 L3 ([bH],H8))) (
 Q (.int .i64 (-1)) s2.2)
def Hp(sz:Nat)(Φ:aj)(a0:AV)(a1:AV)(H:AH)(Q:ae):Prop:=
 Do (br false a0) fun x1=>
 aB (LY sz Φ a0 a1 x1 Q) ([(.int .i64 0)],H)
def kx:Option Nat→Int
 |some i=>i
 |none=> -1
theorem R6{Φ:aj}(hc:∀x,(cells x).length=sz)(hz:0<sz){p:α→Bool}{key:Nat}{cA:List AV}{xs:List α}{H:AH}(hf:∀x∈xs,∀(R:ae),R (.bool (p x)) H→Φ key ([.agg (cells x)]++cA) H R)(hl:xs.length≤9223372036854775807){Q:ae}
  (hQ:Q (.int .i64 (kx (xs.findIdx? p))) H) (A9:ny key=none:=by first|assumption|rfl):Hp sz Φ (aQ cells xs) (.fn key cA) H Q:=by
 unfold Hp;have hlen:br false (aQ cells xs)=some (.int .i64 xs.length):=rfl;rw[hlen];simp only[aa];have main:∀(ys:List α)(i:Nat),xs.drop i=ys→Q (.int .i64 (kx ((ys.findIdx? p).map (·+ i)))) H→aB (LY sz Φ (aQ cells xs) (.fn key cA) (.int .i64 xs.length) Q) ([.int .i64 i],H):=by
  intro ys;induction ys with
  | nil=>intro i hi hq;have hle:=fe hi;refine aB.step ?_;simp only[LY,aA,bF,aa,aD];rw[if_neg (by simp only[decide_eq_true_eq];omega)];simpa[kx]using hq
  | cons y ys ih=>
   intro i hi hq;obtain⟨aO,hy,hd⟩:=eX hi;refine aB.step ?_;simp only[LY,aA,bF,aa,aD];rw[if_pos (by simp only[decide_eq_true_eq];omega),d_ aO];simp only[aa];rw[gO hc hz H hy];simp only[aa];refine⟨key,cA,rfl,?_⟩;rw[SM A9,Sr A9];refine hf y (List.mem_of_getElem? hy) _ ?_;simp only[aD];rw[List.findIdx?_cons]at hq;by_cases he:p y=true
   · rw[if_pos he];rw[if_pos he]at hq;simpa[kx]using hq
   · rw [if_neg he];rw[if_neg he]at hq;simp only[cp,aa];rw[wrap_i64 (by omega) (by omega),show((i:Int)+1)=((i+1:Nat):Int) by simp];refine ih (i+1) hd ?_;have:(List.findIdx? p ys).map (·+ (i+1))=((List.findIdx? p ys).map (·+ 1)).map (·+ i):=by
      rw[Option.map_map];congr 1;funext k;simp only[Function.comp];omega
     rw[this];exact hq
 refine main xs 0 rfl ?_;simpa using hQ
end
end Rb

namespace Rb
open Go
theorem yx(a b:List AV):AV.dD (a++b)=(AV.dD a&&AV.dD b):=by rw[Hq,Hq,Hq,List.all_append]
mutual
theorem aE.cD:∀x:aE,AV.dD x.cells=true
 | .mk kind size packed fields count elem=>by simp only[aE.cells,AV.dD,AV.cD,Tok.free,aP.p_ fields,aE.p_ elem,Bool.and_self]
theorem aE.p_:∀xs:List aE,AV.dD (aE.all xs)=true
 |[]=>rfl
 |x::r=>by rw[aE.all,yx,aE.cD x,aE.p_ r];rfl
theorem aP.cD:∀x:aP,AV.dD x.cells=true
 | .mk name type bits width=>by simp only[aP.cells,AV.dD,AV.cD,yx,aE.cD type,Bool.and_self]
theorem aP.p_:∀xs:List aP,AV.dD (aP.all xs)=true
 |[]=>rfl
 |x::r=>by rw[aP.all,yx,aP.cD x,aP.p_ r];rfl
end
mutual
theorem aF.cD:∀x:aF,AV.dD x.cells=true
 | .mk kind n name op order place kids=>by simp only[aF.cells,AV.dD,AV.cD,yx,Tok.free,aT.cD place,aF.p_ kids,Bool.and_self]
theorem aF.p_:∀xs:List aF,AV.dD (aF.all xs)=true
 |[]=>rfl
 |x::r=>by rw[aF.all,yx,aF.cD x,aF.p_ r];rfl
theorem aT.cD:∀x:aT,AV.dD x.cells=true
 | .mk var parts=>by simp only[aT.cells,AV.dD,AV.cD,Tok.free,a_.p_ parts,Bool.and_self]
theorem a_.cD:∀x:a_,AV.dD x.cells=true
 | .mk field index=>by simp only[a_.cells,AV.dD,AV.cD,Tok.free,aF.p_ index,Bool.and_self]
theorem a_.p_:∀xs:List a_,AV.dD (a_.all xs)=true
 |[]=>rfl
 |x::r=>by rw[a_.all,yx,a_.cD x,a_.p_ r];rfl
end
theorem zZ{α:Type}{cells:α→List AV}(h:∀x,AV.dD (cells x)=true)(xs:List α):(aQ cells xs).cD=true:=by
 have:AV.dD (xs.flatMap cells)=true:=by
  induction xs with
  |nil=>rfl
  |cons x xs ih=>rw[List.flatMap_cons,yx,h,ih];rfl
 simp only[aQ,AV.cD,Tok.free,this,Bool.and_self]
theorem aK.cD(x:aK):AV.dD x.cells=true:=by simp only[aK.cells,AV.dD,AV.cD,aE.cD,Bool.and_self]
mutual
theorem aC.cD:∀x:aC,AV.dD x.cells=true
 | .mk kind line name cW order place exprs aZ bz=>by simp only[aC.cells,AV.dD,AV.cD,yx,Tok.free,aT.cD place,zZ aF.cD exprs,aC.p_ aZ,aC.p_ bz,Bool.and_self]
theorem aC.p_:∀xs:List aC,AV.dD (aC.all xs)=true
 |[]=>rfl
 |x::r=>by rw[aC.all,yx,aC.cD x,aC.p_ r];rfl
end
theorem aoh(l:List aC):AV.dD (oW l)=true:=by simp only[oW,AV.dD,zZ aC.cD,Bool.and_self]
theorem jT.cD(x:jT):AV.dD x.cells=true:=by simp only[jT.cells,AV.dD,zZ aK.cD,zZ aoh,Bool.and_self]
end Rb

namespace Rb
open Go
@[simp] theorem AH.an_ (H:AH) (x y:dc):(H.push x).set H.n y=H.push y:=by simp only[AH.push,AH.set];congr 1;funext j;split<;>rfl
@[simp] theorem jQ (H:AH) (cs:List AV) (n o:Nat) (agg:Bool):J (H.push (.row cs)) n agg (.ptr H.n o)=cC cs o n agg:=by simp[J,AH.DQ]
theorem al_(H:AH)(cs:List AV)(n o:Nat)(v:AV)(h1:v.known=true)(h2:v.cells.length=n)(h3:v.cells.all AV.scalar=true)(h4:o+n≤cs.length):aH (H.push (.row cs)) n (.ptr H.n o) v=some (H.push (.row (setCells cs o v.cells))):=by rw[(At.new H (.row cs)).store,if_pos ⟨h1,h2,h3,h4⟩,AH.an_]
theorem Sh{xs ys:List AV}:∀{k:Nat},k+ys.length=xs.length→setCells xs k ys=xs.take k++ys:=by
 induction ys generalizing xs with
 |nil=>intro k h;simp only[setCells];rw[List.append_nil,List.take_of_length_le (by simp at h;omega)]
 | cons y ys ih=>
  intro k h;simp only[setCells];rw[ih (by simp at h ⊢;omega)];have hk:k<xs.length:=by simp at h;omega
  rw[List.take_add_one,List.getElem?_set_self hk,List.take_set_of_le (by omega)];simp
theorem fC(H:AH)(zs cs:List AV)(n:Nat)(h2:cs.length=n)(h3:cs.all AV.scalar=true)(h4:zs.length=n):aH (H.push (.row zs)) n (.ptr H.n 0) (.agg cs)=some (H.push (.row cs)):=by rw[al_ H zs n 0 (.agg cs) rfl h2 h3 (by omega)];congr 3;show setCells zs 0 cs=cs;rw[Sh (by omega)];rfl
theorem Bq{a b:List AV}{n:Nat}(h:a.length=n):cC (a++b) 0 n true=some (.agg a):=by unfold cC;rw[if_pos (by rw[List.length_append];omega)];simp only[if_true,List.drop_zero];rw[List.take_append_of_le_length (by omega),List.take_of_length_le (by omega)]
theorem mK{a:List AV}{n:Nat}(h:a.length=n):cC a 0 n true=some (.agg a):=by have:=Bq (a:=a) (b:=[]) h;rwa [List.append_nil]at this
theorem ajY{cs:List AV}{o n:Nat}{agg:Bool}(h:o≤cs.length):cC cs o n agg=cC (cs.drop o) 0 n agg:=by
 by_cases hl:o+n≤cs.length
 · have jL:0+n≤(cs.drop o).length:=by rw[List.length_drop];omega
   unfold cC;simp only[hl,jL,if_true];cases agg<;>simp
 · have jL:¬0+n≤(cs.drop o).length:=by rw[List.length_drop];omega
   unfold cC;simp only[hl,jL,if_false]
mutual
theorem aE.scalar:∀x:aE,x.cells.all AV.scalar=true
 | .mk kind size packed fields count elem=>by simp[aE.cells,AV.scalar]
theorem aP.scalar:∀x:aP,x.cells.all AV.scalar=true
 | .mk name type bits width=>by simp only[aP.cells,List.all_cons,List.all_append,aE.scalar type];rfl
end
theorem aT.scalar(x:aT):x.cells.all AV.scalar=true:=by rw[aT.bf];rfl
theorem a_.scalar(x:a_):x.cells.all AV.scalar=true:=by rw[a_.bf];rfl
theorem aF.scalar(x:aF):x.cells.all AV.scalar=true:=by rw[aF.bf];simp only[List.all_cons,List.all_append,aT.scalar];rfl
theorem aC.scalar(x:aC):x.cells.all AV.scalar=true:=by rw[aC.bf];simp only[List.all_cons,List.all_append,aT.scalar];rfl
theorem aK.scalar(x:aK):x.cells.all AV.scalar=true:=by simp only[aK.cells,List.all_cons,aE.scalar];rfl
end Rb

namespace Rb
open Go
def i1(k:IntKind)(z:Int):List AV:=[.int k z]
section
variable{α:Type}{c:α→AV}
theorem HA(H:AH){xs:List α}{i:Nat}{x:α}(hx:xs[i]?=some x):J H 1 false (iB (fun x=>[c x]) 1 xs i)=some (c x):=by
 have aO:=(List.getElem?_eq_some_iff.1 hx).1;have hd:xs.drop i=x::xs.drop (i+1):=by rw[List.drop_eq_getElem_cons aO];rw[List.getElem?_eq_getElem aO]at hx;simp at hx;rw[hx]
 show cC ((xs.flatMap fun x=>[c x]).drop (i*1)) 0 1 false=_;rw[sU (sz:=1) (fun _=>rfl),hd,List.flatMap_cons];rfl
end
theorem cu{α:Type}(cells:α→List AV)(xs:List α):br false (aQ cells xs)=some (.int .i64 xs.length):=rfl
end Rb

namespace Rb
open Go
def cG(Φ:aj)(k:Nat)(args:List AV)(v:AV):Prop:=∀(H:AH)(Q:ae),Q v H→Φ k args H Q
theorem cG.of{C:Ctx}(aw:dz C){k:Nat}{args:List AV}{v:AV}(ha:AV.dD args=true)(hv:v.cD=true)(h:∀Q:ae,(∀H',Q v H')→au C k args AH.mt Q):cG (au C) k args v:=fun H Q hQ=>au.aec (Q:=fun u _=>u=v) aw (h _ fun _=>rfl) ha H Q fun u _ hu=>by subst hu;exact⟨hv,hQ⟩
def isLet(c:UInt8):Bool:=decide (97≤c.toNat)&&decide (c.toNat≤122)
def Jb(c:UInt8):Bool:=decide (48≤c.toNat)&&decide (c.toNat≤57)
def pb(c:UInt8):Bool:=isLet c||Jb c||decide (c.toNat=95)
def gH:List UInt8→Bool
 |[]=>false
 |c::r=>decide (r.length<16)&&isLet c&&r.all pb
theorem alO{n b0 b1 b2 b3:Nat}(h:b0<128):Go.Lib.decodeN n b0 b1 b2 b3=(b0,1):=by unfold Go.Lib.decodeN;rw[if_pos h]
theorem alN{n b0 b1 b2 b3:Nat}(h:¬b0<128):128≤(Go.Lib.decodeN n b0 b1 b2 b3).1:=by
 unfold Go.Lib.decodeN;rw[if_neg h]
 repeat' split
 all_goals (dsimp only;omega)
theorem aaC{s:List UInt8}{i:Nat}{c:UInt8}(hc:s[i]?=some c)(h:c.toNat<128):Utf8.decode ⟨s.toArray⟩ i=(c.toNat,1):=by
 have e:(ByteArray.mk s.toArray).get! i=c:=by show s.toArray[i]! = c;have hi:=(List.getElem?_eq_some_iff.1 hc).1;rw[getElem!_pos s.toArray i (by simpa using hi)];simp[List.getElem?_eq_getElem hi]at hc;simpa using hc
 rw[Go.Lib.decode_at,e,alO h]
theorem amr{s:List UInt8}{i:Nat}{c:UInt8}(hc:s[i]?=some c)(h:¬c.toNat<128):128≤(Utf8.decode ⟨s.toArray⟩ i).1:=by
 have e:(ByteArray.mk s.toArray).get! i=c:=by show s.toArray[i]! = c;have hi:=(List.getElem?_eq_some_iff.1 hc).1;rw[getElem!_pos s.toArray i (by simpa using hi)];simp[List.getElem?_eq_getElem hi]at hc;simpa using hc
 rw[Go.Lib.decode_at,e];exact alN h
def gJ(n most:Int):Bool:=(n==1||n==2||n==4||n==8||n==16)&&decide (n≤most)
def lz(kind size:Int)(packed:Bool)(nf:Nat)(count:Int)(ne:Nat):Bool:=
 if kind=1∨kind=2 then !packed&&nf==0&&count==0&&ne==0
 else if kind=3∨kind=4 then size==0&&count==0&&ne==0
 else if kind=5 then size==0&&!packed&&nf==0&&ne==1
 else false
mutual
def ed:aE→Int
 | .mk kind size packed fields count elem=>
  if lz kind size packed fields.length count elem.length=false then 8
  else if kind=1 then(if gJ size 8 then 0 else 9)
  else if kind=2 then(if gJ size 16 then 0 else 9)
  else if kind=5 then(if count<1∨65536<count then 9 else ahE elem)
  else if fields.length<1∨32<fields.length then 12
  else kU packed [] fields
def ahE:List aE→Int
 |[]=>0
 |t::_=>ed t
def mT(packed:Bool)(seen:List (List UInt8)):aP→Int
 | .mk name type bits width=>
  if gH name=false∧(name≠[]∨bits=false)then 6
  else if name≠[]∧seen.contains name=true then 7
  else if ed type≠0 then ed type
  else if(bits=false∧width≠0)∨(bits=true∧(type.kind≠1∨packed=true))then 8
  else if bits=true∧(width<0∨8*type.size<width∨(width=0∧name≠[]))then 9
  else 0
def kU(packed:Bool)(seen:List (List UInt8)):List aP→Int
 |[]=>0
 |f::r=>if mT packed seen f≠0 then mT packed seen f else kU packed (seen++[f.name]) r
end
mutual
def im(most:Nat):aE→Int
 | .mk kind size packed fields count elem=>if 1<most then max (jU (most-1) fields) (iX (most-1) elem)+1 else 1
def JF(most:Nat):aP→Int
 | .mk name type bits width=>im most type
def jU(most:Nat):List aP→Int
 |[]=>0
 |f::r=>max (JF most f) (jU most r)
def iX(most:Nat):List aE→Int
 |[]=>0
 |t::r=>max (im most t) (iX most r)
end
def iI(t:aE):Int:=if 64<im 65 t then 5 else ed t
theorem aE.ind{P:aE→Prop}(h:∀t:aE,(∀f∈t.fields,P f.type)→(∀e∈t.elem,P e)→P t):∀t,P t:=by
 have main:∀(n:Nat)(t:aE),sizeOf t<n→P t:=by
  intro n;induction n with
  |zero=>intro t ht;omega
  | succ n ih=>
   intro t ht;refine h t (fun f hf=>ih _ ?_) fun e he=>ih _ ?_
   · cases t with
     | mk kind size packed fields count elem=>
      have:=List.sizeOf_lt_of_mem hf;cases f with
      |mk name type bits width=>simp at this ht ⊢;omega
   · cases t with
     | mk kind size packed fields count elem=>have:=List.sizeOf_lt_of_mem he;simp at this ht ⊢;omega
 exact fun t=>main _ t (Nat.lt_succ_self _)
end Rb

namespace Rb
open Go
theorem lu(t:aE)(H:AH):bB H false 6 (.agg t.cells)=some (.av t.cells,H):=by unfold bB;rw[if_pos ⟨rfl,t.len⟩];rfl
theorem dt(t:aE)(i:Nat):ab i (.av t.cells)=some (.av (t.cells.drop i)):=rfl
theorem qm(t:aE)(H:AH):J H 1 false (.av (t.cells.drop 0))=some (.int .i64 t.kind):=by rw[aE.bf];rfl
theorem vy(t:aE)(H:AH):J H 1 false (.av (t.cells.drop 1))=some (.int .i64 t.size):=by rw[aE.bf];rfl
theorem xq(t:aE)(H:AH):J H 1 false (.av (t.cells.drop 2))=some (.bool t.packed):=by rw[aE.bf];rfl
theorem kV(t:aE)(H:AH):J H 1 false (.av (t.cells.drop 3))=some (aQ aP.cells t.fields):=by rw[aE.bf];rfl
theorem Aw(t:aE)(H:AH):J H 1 false (.av (t.cells.drop 4))=some (.int .i64 t.count):=by rw[aE.bf];rfl
theorem nt(t:aE)(H:AH):J H 1 false (.av (t.cells.drop 5))=some (aQ aE.cells t.elem):=by rw[aE.bf];rfl
theorem qT(t:aE)(H:AH):J H 6 true (.av t.cells)=some (.agg t.cells):=mK t.len
theorem Fb(f:aP):cC f.cells 0 1 false=some (.str f.name):=by cases f with|mk n t b w=>cases t;rfl
theorem Vv(f:aP):cC f.cells 7 1 false=some (.bool f.bits):=by cases f with|mk n t b w=>cases t;rfl
theorem agh(f:aP):cC f.cells 8 1 false=some (.int .i64 f.width):=by cases f with|mk n t b w=>cases t;rfl
theorem Qk(f:aP):cC f.cells 1 6 true=some (.agg f.type.cells):=by cases f with|mk n t b w=>cases t;rfl
theorem Wb(f:aP):cC f.cells 1 1 false=some (.int .i64 f.type.kind):=by cases f with|mk n t b w=>cases t;rfl
theorem ag6(f:aP):cC f.cells 2 1 false=some (.int .i64 f.type.size):=by cases f with|mk n t b w=>cases t;rfl
theorem wrap_i32{n:Int}(h1 : -2147483648≤n)(h2:n≤2147483647):IntKind.wrap .i32 n=n:=by simp[IntKind.wrap,IntKind.signed,IntKind.bits];omega
theorem lq(s t:List UInt8):ai .eql (.str s) (.str t)=some (.bool (s==t)):=rfl
theorem yw(s t:List UInt8):ai .neq (.str s) (.str t)=some (.bool (!(s==t))):=rfl
theorem TX(a b:Int):oY true [.int .i64 a,.int .i64 b]=some (.int .i64 (max a b)):=by simp only[oY,Je,YU,if_true];congr 2;show(if a<b then b else a)=max a b;omega
def Ar(n:Int):Bool:=(decide (97≤n)&&decide (n≤122))||(decide (48≤n)&&decide (n≤57))||decide (n=95)
theorem abm(c:UInt8):Ar (c.toNat:Int)=pb c:=by rw[Bool.eq_iff_iff];simp[Ar,pb,isLet,Jb];omega
theorem an4{n:Int}(h:128≤n):Ar n=false:=by rw[Bool.eq_false_iff];simp[Ar];omega
theorem amN{c:UInt8}(h:¬c.toNat<128):pb c=false:=by rw[Bool.eq_false_iff];simp[pb,isLet,Jb];omega
theorem ap4(c:UInt8):(decide (97≤(c.toNat:Int))&&decide ((c.toNat:Int)≤122))=isLet c:=by rw[Bool.eq_iff_iff];simp[isLet];omega
section
variable{Φ:aj}{H:AH}{Q:ae}
theorem Zi{n:Int}(hQ:Q (.bool (decide (97≤n)&&decide (n≤122))) H):S.f65 Φ (.int .i32 n) H Q:=by
 simp only[S.f65,kG,mL,aa,ck];refine aN (fun h=>?_) (fun h=>?_)
 · simp only[ge_iff_le,decide_eq_true_eq]at h;simpa[h]using hQ
 · simp only[ge_iff_le,decide_eq_true_eq]at h;simpa[h]using hQ
theorem akV{id pos:Nat}{s:List UInt8}(h:At H id (.nO s pos))(hp:pos<s.length):xb H (.ptr id 0)=some (.aM [.bool true,.int .i64 pos,.int .i32 (Utf8.decode ⟨s.toArray⟩ pos).1],H.set id (.nO s (pos+(Utf8.decode ⟨s.toArray⟩ pos).2))):=by simp[xb,h.2,hp]
theorem akU{id pos:Nat}{s:List UInt8}(h:At H id (.nO s pos))(hp:s.length≤pos):xb H (.ptr id 0)=some (.aM [.bool false],H):=by simp[xb,h.2,Nat.not_lt.2 hp]
theorem amY{n:Int}{L:(List AV×AH)→Prop}(hT:Cl Φ S.cH)(Wu:Ar n=false→Q (.bool false) H)(I7:Ar n=true→L ([],H)) :
  Φ K.f65 [.int .i32 n] H fun bA fy=>
   Do (eB .not bA) fun cb=>
   aL cb true (
   Do (ai .neq (.int .i32 n) (.int .i32 95)) fun cK=>
   ak (S.Iq Φ (.int .i32 n) L Q) [cK] fy) (
   ak (S.Iq Φ (.int .i32 n) L Q) [(.bool false)] fy) (
   False):=by
 refine S.adw hT (Zi ?_);have k1:∀b:Bool,b=!Ar n→ak (S.EB Φ L Q) [.bool b] H:=by
  intro b hb;simp only[aG,S.EB,aA,aD];refine aN (fun h=>?_) (fun h=>?_)
  ·exact Wu (by rw[h]at hb;simpa using hb.symm)
  ·exact I7 (by simp only[Bool.not_eq_true]at h;rw[h]at hb;simpa using hb.symm)
 simp only[gk,aa,ck,eK,aG,S.Iq,aA,bF,eY,cj,Bool.false_eq_true,if_false]at k1 ⊢;generalize S.EB Φ L Q=KK at k1 ⊢
 repeat' (refine aN (fun h=>?_) (fun h=>?_))
 all_goals (refine k1 _ ?_;simp only[Bool.not_eq_true',Bool.and_eq_false_imp,decide_eq_true_eq,decide_eq_false_iff_not,bne_iff_ne,ne_eq,Bool.not_eq_true,Bool.not_eq_false]at *;rw[Bool.eq_iff_iff];simp[Ar];omega)
theorem ajW(hT:Cl Φ S.cH){s:List UInt8}(hQ:∀H',Q (.bool (gH s)) H'):S.f41 Φ (.str s) H Q:=by
 have main:∀(ys:List UInt8)(pos id:Nat)(H:AH),s.drop pos=ys→At H id (.nO s pos)→(∀H',Q (.bool (ys.all pb)) H')→aB (S.OV Φ (.ptr id 0) Q) ([],H):=by
  intro ys;induction ys with
  | nil=>intro pos id H hd ef hq;have hle:=fe hd;refine aB.step ?_;simp only[S.OV];rw[akU ef hle];simp only[bw,db,List.getElem?_cons_zero,aa,aD,Bool.false_eq_true,if_false];simpa using hq H
  | cons y ys ih=>
   intro pos id H hd ef hq;obtain⟨aO,hy,bC⟩:=eX hd;refine aB.step ?_;simp only[S.OV];rw[akV ef aO];simp only[bw,db,List.getElem?_cons_zero,List.getElem?_cons_succ,aa,aD,if_true];refine amY hT (fun hb=>?_) (fun hg=>?_)
   · by_cases yf:y.toNat<128
     · rw[aaC hy yf]at hb;simp only[abm]at hb;have:=hq (H.set id (.nO s (pos+(Utf8.decode ⟨s.toArray⟩ pos).2)));simpa[hb]using this
     · have:=hq (H.set id (.nO s (pos+(Utf8.decode ⟨s.toArray⟩ pos).2)));simpa[amN yf]using this
   · by_cases yf:y.toNat<128
     · rw[aaC hy yf]at hg ⊢;simp only[abm]at hg;exact ih (pos+1) id _ bC (ef.set _) fun H'=>by simpa[hg]using hq H'
     · rw[an4 (by have:=amr hy yf;omega)]at hg;cases hg
 unfold S.f41;simp only[DV,bF,eY,aa,cj,aG];cases s with
 | nil=>simp[S.OU,S.Ir,aG,aA,cj,aD];simpa[gH]using hQ H
 | cons c r=>
  rw[if_pos (by simp;omega)];have k5:∀b:Bool,(b=false→gH (c::r)=r.all pb∧pb c=true)→(b=true→gH (c::r)=false)→∀H,S.Ir Φ (.str (c::r)) Q [.bool b] H:=by
   intro b h1 h2 H;simp only[S.Ir,aA,aD];refine aN (fun h=>?_) (fun h=>?_)
   ·have:=hQ H;rw[h2 h]at this;exact this
   · simp only[Bool.not_eq_true]at h;obtain⟨g1,g2⟩:=h1 h;simp only[aG,S.adY,BG,bw];refine main (c::r) 0 H.n _ rfl (At.new H _) fun H'=>?_;have:=hQ H';rw[g1]at this;simpa[g2]using this
  simp only[S.OU,aA,cj,aG];refine aN (fun h=>?_) (fun h=>?_)
  · have hx:oz (.str (c::r)) (.int .i64 0)=some (.int .u8 c.toNat):=by simp[oz]
    have hc:=c.toNat_lt;rw[hx];simp only[aa,vg];rw[wrap_i32 (by omega) (by omega)];refine S.adw hT (Zi ?_);rw[ap4];simp only[gk,aa];have hl:r.length<16:=by simp at h;omega
    refine k5 _ (fun hb=>?_) (fun hb=>?_) _
    · have:isLet c=true:=by simpa using hb
      exact⟨by simp[gH,hl,this],by simp[pb,this]⟩
    · have:isLet c=false:=by simpa using hb
      simp[gH,this]
  · refine k5 _ (fun hb=>by cases hb) (fun _=>?_) _;have hl:¬r.length<16:=by simp at h;omega
    simp[gH,hl]
end
end Rb

namespace Rb
open Go
mutual
theorem Ep:∀(t:aE)(m:Nat),1≤m→1≤im m t∧im m t≤m
 | .mk kind size packed fields count elem,m,hm=>by
  simp only[im];split
  · rename_i h;have h1:=Mw fields (m-1) (by omega);have h2:=S5 elem (m-1) (by omega);omega
  ·omega
theorem ao5:∀(f:aP)(m:Nat),1≤m→0≤JF m f∧JF m f≤m
 | .mk name type bits width,m,hm=>by have:=Ep type m hm;simp only[JF];omega
theorem Mw:∀(l:List aP)(m:Nat),1≤m→0≤jU m l∧jU m l≤m
 |[],m,hm=>by simp only[jU];omega
 | f::r,m,hm=>by have h1:=ao5 f m hm;have h2:=Mw r m hm;simp only[jU];omega
theorem S5:∀(l:List aE)(m:Nat),1≤m→0≤iX m l∧iX m l≤m
 |[],m,hm=>by simp only[iX];omega
 | t::r,m,hm=>by have h1:=Ep t m hm;have h2:=S5 r m hm;simp only[iX];omega
end
theorem HE(f:aP)(m:Nat):JF m f=im m f.type:=by cases f;rfl
theorem BH(t:aE)(m:Nat):im m t=if 1<m then max (jU (m-1) t.fields) (iX (m-1) t.elem)+1 else 1:=by cases t;rfl
theorem m9(t:aE):ed t=if lz t.kind t.size t.packed t.fields.length t.count t.elem.length=false then 8
  else if t.kind=1 then(if gJ t.size 8 then 0 else 9)
  else if t.kind=2 then(if gJ t.size 16 then 0 else 9)
  else if t.kind=5 then(if t.count<1∨65536<t.count then 9 else ahE t.elem)
  else if t.fields.length<1∨32<t.fields.length then 12
  else kU t.packed [] t.fields:=by cases t;rfl
theorem wY(packed:Bool)(seen:List (List UInt8))(f:aP):mT packed seen f=if gH f.name=false∧(f.name≠[]∨f.bits=false)then 6
  else if f.name≠[]∧seen.contains f.name=true then 7
  else if ed f.type≠0 then ed f.type
  else if(f.bits=false∧f.width≠0)∨(f.bits=true∧(f.type.kind≠1∨packed=true))then 8
  else if f.bits=true∧(f.width<0∨8*f.type.size<f.width∨(f.width=0∧f.name≠[]))then 9
  else 0:=by cases f;rfl
section
variable{Φ:aj}{H:AH}{Q:ae}
theorem Zl{n most:Int}(hm:most=8∨most=16)(hQ:Q (.bool (gJ n most)) H):S.f121 Φ (.int .i64 n) (.int .i64 most) H Q:=by
 have e:∀b:Bool,b=gJ n most→Q (.bool b) H:=fun b h=>by rw[h];exact hQ
 simp only[S.f121,S.TB,aG,aA,kG,mL,aa,ck,Bool.false_eq_true,if_false];refine aN (fun h1=>?_) (fun h1=>?_)
 · refine aN (fun h2=>?_) (fun h2=>?_)
   · simp only[ge_iff_le,decide_eq_true_eq]at h1 h2;have:n=1∨n=2∨n=3∨n=4∨n=5∨n=6∨n=7∨n=8∨n=9∨n=10∨n=11∨n=12∨n=13∨n=14∨n=15∨n=16:=by omega
     have hle:decide (n≤most)=true:=by simpa using h2
     simp only[nM,aa,anr,cn];refine e _ ?_;unfold gJ;rw[hle,Bool.and_true];clear hle h2 h1 hQ e;rcases this with rfl|rfl|rfl|rfl|rfl|rfl|rfl|rfl|rfl|rfl|rfl|rfl|rfl|rfl|rfl|rfl<;>decide
   · refine e _ ?_;simp only[decide_eq_true_eq]at h2;simp[gJ,h2]
 · refine e _ ?_;simp only[ge_iff_le,decide_eq_true_eq]at h1;have:n≠1∧n≠2∧n≠4∧n≠8∧n≠16:=by omega
   simp[gJ,this]
theorem ajX{t:aE}(hQ:Q (.bool (lz t.kind t.size t.packed t.fields.length t.count t.elem.length)) H):S.f120 Φ (.agg t.cells) H Q:=by
 have e:∀b:Bool,b=lz t.kind t.size t.packed t.fields.length t.count t.elem.length→Q (.bool b) H:=fun b h=>by rw[h];exact hQ
 clear hQ;simp only[S.f120,S.HH,S.HI,S.M7,S.Tx,S.Ty,S.Tz,S.TA,lu,bw,dt,qm,vy,xq,kV,Aw,nt,cu,aG,aA,cn,gk,aa,ck,cj];generalize t.kind=k at *;generalize t.size=sz at *;generalize t.packed=pk at *;generalize t.fields.length=nf at *;generalize t.count=ct at *;generalize t.elem.length=ne at *;by_cases h1:k=1
 · subst h1;simp only[BEq.rfl,Int.reduceBEq,Bool.true_eq_false,Bool.false_eq_true,if_true,if_false,Bool.not_false,Bool.not_true]
   repeat' (refine aN (fun h=>?_) (fun h=>?_))
   all_goals (refine e _ ?_;simp_all [lz])
 by_cases h2:k=2
 · subst h2;simp only[BEq.rfl,Int.reduceBEq,Bool.true_eq_false,Bool.false_eq_true,if_true,if_false,Bool.not_false,Bool.not_true]
   repeat' (refine aN (fun h=>?_) (fun h=>?_))
   all_goals (refine e _ ?_;simp_all [lz])
 by_cases h3:k=3
 · subst h3;simp only[BEq.rfl,Int.reduceBEq,Bool.true_eq_false,Bool.false_eq_true,if_true,if_false,Bool.not_false,Bool.not_true]
   repeat' (refine aN (fun h=>?_) (fun h=>?_))
   all_goals (refine e _ ?_;simp_all [lz])
 by_cases h4:k=4
 · subst h4;simp only[BEq.rfl,Int.reduceBEq,Bool.true_eq_false,Bool.false_eq_true,if_true,if_false,Bool.not_false,Bool.not_true]
   repeat' (refine aN (fun h=>?_) (fun h=>?_))
   all_goals (refine e _ ?_;simp_all [lz])
 by_cases h5:k=5
 · subst h5;simp only[BEq.rfl,Int.reduceBEq,Bool.true_eq_false,Bool.false_eq_true,if_true,if_false,Bool.not_false,Bool.not_true]
   repeat' (refine aN (fun h=>?_) (fun h=>?_))
   all_goals (refine e _ ?_;simp_all [lz])<;>(rw[Bool.eq_iff_iff];simp;try omega)
 · have g1:(k==1)=false:=by simpa using h1
   have g2:(k==2)=false:=by simpa using h2
   have g3:(k==3)=false:=by simpa using h3
   have g4:(k==4)=false:=by simpa using h4
   have g5:(k==5)=false:=by simpa using h5
   simp only[g1,g2,g3,g4,g5,Bool.true_eq_false,Bool.false_eq_true,if_true,if_false,Bool.not_false,Bool.not_true]
   repeat' (refine aN (fun h=>?_) (fun h=>?_))
   all_goals (refine e _ ?_;simp_all [lz])
theorem ajP{t:aE}{m:Nat}(h1:1≤m)(h2:m≤65)(zH:t.fields.length≤maxLen)(hle:t.elem.length≤maxLen)
  (hf:1<m→∀f∈t.fields,cG Φ K.f119 [.agg f.type.cells,.int .i64 ((m-1:Nat):Int)] (.int .i64 (im (m-1) f.type)))
  (he:1<m→∀x∈t.elem,cG Φ K.f119 [.agg x.cells,.int .i64 ((m-1:Nat):Int)] (.int .i64 (im (m-1) x)))
  (hQ:∀H',Q (.int .i64 (im m t)) H'):S.f119 Φ (.agg t.cells) (.int .i64 m) H Q:=by
 have hm:maxLen=9223372036854775807:=by decide
 rw[hm]at zH hle;have k1:∀(v:Int)(H:AH),0≤v→v≤64→v+1=im m t→ak (S.M4 Φ Q) [.int .i64 v] H:=by intro v H Dw Bd hv;simp only[aG,S.M4,aA,cp,aa];rw[wrap_i64 (by omega) (by omega),hv];exact hQ H
 unfold S.f119;simp only[lu,bw,eY,aa,aD];refine aN (fun h=>?_) (fun h=>?_)
 · have nG:1<m:=by simp at h;omega
   have rf:IntKind.wrap .i64 ((m:Int)-1)=((m-1:Nat):Int):=by rw[wrap_i64 (by omega) (by omega)];omega
   have dE:=S5 t.elem (m-1) (by omega);have dF:=Mw t.fields (m-1) (by omega);have kW:im m t=max (jU (m-1) t.fields) (iX (m-1) t.elem)+1:=by rw[BH,if_pos nG]
   have VG:∀(xs:List aE)(i:Nat)(acc:Int)(H:AH),t.elem.drop i=xs→0≤acc→acc≤64→max acc (iX (m-1) xs)+1=im m t →
     aB (S.M5 Φ (.int .i64 m) (aQ aE.cells t.elem) (.int .i64 t.elem.length) Q) ([.int .i64 acc,.int .i64 i],H):=by
    intro xs;induction xs with
    | nil=>intro i acc H hd A2 uT ha;have WB:=fe hd;refine aB.step ?_;simp only[S.M5,aA,cv,bF,aa,aD];rw[if_neg (by simp only[decide_eq_true_eq];omega)];refine k1 _ _ A2 uT ?_;simp only[iX]at ha;omega
    | cons x xs ih=>intro i acc H hd A2 uT ha;obtain⟨aO,hx,bC⟩:=eX hd;have gI:=List.mem_of_getElem? hx;refine aB.step ?_;simp only[S.M5,aA,cv,bF,aa,aD];rw[if_pos (by simp only[decide_eq_true_eq];omega),d_ aO];simp only[aa];rw[gO aE.len (by decide) _ hx];simp only[aa,bw,be,if_true];rw[fC _ _ _ 6 x.len x.scalar rfl];simp only[aa];rw[jQ,mK x.len];simp only[aa,nM,rf];refine he nG x gI _ _ ?_;have hb:=Ep x (m-1) (by omega);rw[TX];simp only[aa,cp];rw[wrap_i64 (by omega) (by omega),show((i:Int)+1)=((i+1:Nat):Int) by simp];refine ih (i+1) _ _ bC (by omega) (by omega) ?_;simp only[iX]at ha;omega
   have k3:∀(acc:Int)(H:AH),0≤acc→acc≤64→max acc (iX (m-1) t.elem)+1=im m t→ak (S.Tw Φ (.int .i64 m) (.av t.cells) Q) [.int .i64 acc] H:=by intro acc H A2 uT ha;simp only[aG,S.Tw,aA,dt,nt,cu,aa];exact VG t.elem 0 acc H rfl A2 uT ha
   have VH:∀(xs:List aP)(i:Nat)(acc:Int)(H:AH),t.fields.drop i=xs→0≤acc→acc≤64→max (max acc (jU (m-1) xs)) (iX (m-1) t.elem)+1=im m t →
     aB (S.M6 Φ (.int .i64 m) (.av t.cells) (aQ aP.cells t.fields) (.int .i64 t.fields.length) Q) ([.int .i64 acc,.int .i64 i],H):=by
    intro xs;induction xs with
    | nil=>intro i acc H hd A2 uT ha;have WB:=fe hd;refine aB.step ?_;simp only[S.M6,aA,cv,bF,aa,aD];rw[if_neg (by simp only[decide_eq_true_eq];omega)];refine k3 _ _ A2 uT ?_;simp only[jU]at ha;omega
    | cons x xs ih=>intro i acc H hd A2 uT ha;obtain⟨aO,hx,bC⟩:=eX hd;have gI:=List.mem_of_getElem? hx;refine aB.step ?_;simp only[S.M6,aA,cv,bF,aa,aD];rw[if_pos (by simp only[decide_eq_true_eq];omega),d_ aO];simp only[aa];rw[gO aP.len (by decide) _ hx];simp only[aa,bw,be,if_true];rw[fC _ _ _ 9 x.len x.scalar rfl];simp only[aa,ab,Nat.zero_add];rw[jQ,Qk];simp only[aa,nM,rf];refine hf nG x gI _ _ ?_;have hb:=Ep x.type (m-1) (by omega);rw[TX];simp only[aa,cp];rw[wrap_i64 (by omega) (by omega),show((i:Int)+1)=((i+1:Nat):Int) by simp];refine ih (i+1) _ _ bC (by omega) (by omega) ?_;simp only[jU,HE]at ha;omega
   simp only[dt,kV,cu,aa];refine VH t.fields 0 0 H rfl (by omega) (by omega) ?_;omega
 · have nG:m=1:=by simp at h;omega
   subst nG;refine k1 0 H (by omega) (by omega) ?_;rw[BH];rfl
end
end Rb

namespace Rb
open Go
section
variable{α:Type}{cells:α→List AV}{sz:Nat}
theorem akw(hc:∀x,(cells x).length=sz):∀(xs:List α)(i:Nat),(xs.flatMap cells).take (i*sz)=(xs.take i).flatMap cells:=by
 intro xs i;induction i generalizing xs with
 |zero=>simp
 | succ i ih=>
  cases xs with
  |nil=>simp
  | cons x xs=>rw[List.flatMap_cons,List.take_succ_cons,List.flatMap_cons,←ih];rw[show(i+1)*sz=(cells x).length+i*sz by rw[hc,Nat.add_mul,Nat.one_mul,Nat.add_comm],List.take_length_add_append]
theorem aal(hc:∀x,(cells x).length=sz){xs:List α}{n:Nat}(hn:n≤xs.length):kO sz (aQ cells xs) none (some (.int .i64 n)) none=some (aQ cells (xs.take n)):=by
 simp only[aQ,kO,kH,Option.map_none];rw[if_pos (by omega)];simp only;rw[if_pos ⟨Nat.zero_le _,by omega,ak3 hc xs⟩];by_cases h:n=xs.length
 ·rw[if_pos (by simp;omega),h,List.take_length]
 · rw[if_neg (by omega)];have:((n:Int)).toNat=n:=by omega
   simp only[this,if_true,Nat.sub_zero,Nat.zero_mul,List.drop_zero,akw hc];rw[List.length_take,Nat.min_eq_left hn]
end
theorem MA{α:Type}(p:α→Bool)(xs:List α):decide (kx (xs.findIdx? p)≥0)=xs.any p:=by
 cases hf:xs.findIdx? p with
 | none=>
  rw[List.findIdx?_eq_none_iff]at hf;have:xs.any p=false:=by simpa using hf
  rw[this];rfl
 | some i=>
  obtain⟨hi,h1,_⟩:=List.findIdx?_eq_some_iff_getElem.1 hf;have:xs.any p=true:=by rw[List.any_eq_true];exact⟨xs[i],List.getElem_mem hi,h1⟩
  rw[this];simp[kx]
section
variable{Φ:aj}{H:AH}{Q:ae}
theorem fieldIndex{p:aP→Bool}{key:Nat}{cA:List AV}{xs:List aP}(hf:∀x∈xs,∀(R:ae),R (.bool (p x)) H→Φ key ([.agg x.cells]++cA) H R)(hl:xs.length≤9223372036854775807)
  (hQ:Q (.int .i64 (kx (xs.findIdx? p))) H) (A9:ny key=none:=by first|assumption|rfl):S.f110 Φ (aQ aP.cells xs) (.fn key cA) H Q:=by
 have h:Hp 9 Φ (aQ aP.cells xs) (.fn key cA) H Q:=R6 aP.len (by decide) hf hl hQ;exact h
theorem R5(hT:Cl Φ S.cH){p:aP→Bool}{key:Nat}{cA:List AV}{xs:List aP}(hf:∀x∈xs,∀(R:ae),R (.bool (p x)) H→Φ key ([.agg x.cells]++cA) H R)(hl:xs.length≤9223372036854775807)
  (hQ:Q (.bool (xs.any p)) H) (A9:ny key=none:=by first|assumption|rfl):Φ K.f106 [aQ aP.cells xs,.fn key cA] H Q:=by
 refine S.aoE hT ?_;unfold S.f106;refine S.Tp hT (fieldIndex hf hl ?_);simp only[kG,aa,MA];exact hQ
theorem anB{g:aP}{cs:List AV}{id:Nat}{s:List UInt8}(ef:At H id (.row cs))(ht:cC cs 0 1 false=some (.str s))(hQ:Q (.bool (g.name==s)) H):S.f134 Φ (.agg g.cells) (.ptr id 0) H Q:=by
 unfold S.f134;have hb:bB H false 9 (.agg g.cells)=some (.av g.cells,H):=by unfold bB;rw[if_pos ⟨rfl,g.len⟩];rfl
 rw[hb];have l0:J H 1 false (.av (g.cells.drop 0))=some (.str g.name):=Fb g;have l1:J H 1 false (.ptr id 0)=some (.str s):=by rw[ef.load];exact ht
 simp only[bw,ab,aa,l0,Nat.add_zero,l1,lq];exact hQ
theorem ajQ(hT : Cl Φ S.cH){t:aE}{i:Nat}{f:aP}(hi:t.fields[i]?=some f)(hl:t.fields.length≤32)(hs:cG Φ K.f103 [.agg f.type.cells] (.int .i64 (ed f.type)))(I9:∀s,cG Φ K.f41 [.str s] (.bool (gH s)))
  (hQ:∀H',Q (.int .i64 (mT t.packed ((t.fields.take i).map aP.name) f)) H'):S.f132 Φ (.agg t.cells) (.int .i64 i) H Q:=by
 have aO:=(List.getElem?_eq_some_iff.1 hi).1;unfold S.f132;simp only[lu,bw,dt,kV,aa];rw[d_ aO];simp only[aa];rw[gO aP.len (by decide) _ hi];simp only[aa,bw,be,if_true];rw[fC _ _ _ 9 f.len f.scalar rfl];simp only[aa,ab,Nat.add_zero,Nat.zero_add];have r0:J (H.push (.row f.cells)) 1 false (.ptr H.n 0)=some (.str f.name):=by rw[jQ,Fb]
 have r7:J (H.push (.row f.cells)) 1 false (.ptr H.n 7)=some (.bool f.bits):=by rw[jQ,Vv]
 have r8:J (H.push (.row f.cells)) 1 false (.ptr H.n 8)=some (.int .i64 f.width):=by rw[jQ,agh]
 have r1:J (H.push (.row f.cells)) 6 true (.ptr H.n 1)=some (.agg f.type.cells):=by rw[jQ,Qk]
 have rk:J (H.push (.row f.cells)) 1 false (.ptr H.n 1)=some (.int .i64 f.type.kind):=by rw[jQ,Wb]
 have rs:J (H.push (.row f.cells)) 1 false (.ptr H.n 2)=some (.int .i64 f.type.size):=by rw[jQ,ag6]
 have ef:=At.new H (.row f.cells);generalize hH1:H.push (.row f.cells)=H1 at *;have fin:∀v,v=mT t.packed ((t.fields.take i).map aP.name) f→Q (.int .i64 v) H1:=fun v h=>by rw[h];exact hQ H1
 rw[r0];simp only[aa];refine I9 _ _ _ ?_;have k4 : ¬ (gH f.name=false∧(f.name≠[]∨f.bits=false))→¬(f.name≠[]∧((t.fields.take i).map aP.name).contains f.name=true)→S.TD Φ (.av t.cells) (.ptr H.n 0) Q [] H1:=by
  intro n1 n2;have e1:mT t.packed ((t.fields.take i).map aP.name) f=if ed f.type≠0 then ed f.type
    else if(f.bits=false∧f.width≠0)∨(f.bits=true∧(f.type.kind≠1∨t.packed=true))then 8
    else if f.bits=true∧(f.width<0∨8*f.type.size<f.width∨(f.width=0∧f.name≠[]))then 9
    else 0:=by rw[wY,if_neg n1,if_neg n2]
  rw[e1]at fin;clear e1;simp only[S.TD,ab,Nat.zero_add,aa,r1];refine hs _ _ ?_;simp only[eK,aa,aD];refine aN (fun h=>?_) (fun h=>?_)
  ·exact fin _ (by rw[if_pos (by simpa using h)])
  · have h0 : ed f.type=0:=by simpa using h
    rw[if_neg (by simpa using h0)]at fin;have k2 : ∀ b:Bool,(b=true↔((f.bits=false∧f.width≠0)∨(f.bits=true∧(f.type.kind≠1∨t.packed=true))))→ak (S.D8 Φ (.ptr H.n 0) Q) [.bool b] H1:=by
     intro b hb;simp only[aG,S.D8,aA,aD,ab,Nat.zero_add,aa,r7];refine aN (fun h=>?_) (fun h=>?_)
     ·exact fin _ (by rw[if_pos (hb.1 h)])
     · have hn : ¬((f.bits=false∧f.width≠0)∨(f.bits=true∧(f.type.kind≠1∨t.packed=true))):=fun x=>h (hb.2 x);rw[if_neg hn]at fin;have k1:∀b:Bool,(b=true↔(f.bits=true∧(f.width<0∨8*f.type.size<f.width∨(f.width=0∧f.name≠[]))))→ak (S.BJ Φ Q) [.bool b] H1:=by
        intro b hb;simp only[aG,S.BJ,aA,aD];refine aN (fun h=>?_) (fun h=>?_)
        ·exact fin _ (by rw[if_pos (hb.1 h)])
        ·exact fin _ (by rw[if_neg fun x=>h (hb.2 x)])
       simp only[ck];refine aN (fun du=>?_) (fun du=>?_)
       · have ij:f.type.kind=1:=by
           by_cases hk:f.type.kind=1
           ·exact hk
           ·exact absurd (.inr ⟨du,.inl hk⟩) hn
         have gN:1≤f.type.size∧f.type.size≤8:=by
          rw[m9,ij]at h0;split at h0
          ·cases h0
          · simp only[if_true]at h0;split at h0
            · rename_i hp;simp[gJ]at hp;omega
            ·cases h0
         simp only[r8,bF,aa,cj];refine aN (fun hw=>?_) (fun hw=>?_)
         · simp only[rs,aa,m7];rw[wrap_i64 (by omega) (by omega)];simp only[eY,aa,cj];refine aN (fun wD=>?_) (fun wD=>?_)
           · simp only[cn,aa,ck];refine aN (fun wE=>?_) (fun wE=>?_)
             · simp only[r0,aa,yw];refine k1 _ ?_;simp only[decide_eq_false_iff_not,gt_iff_lt,beq_iff_eq]at hw wD wE;simp[du,wE];omega
             · refine k1 _ ?_;simp only[decide_eq_false_iff_not,gt_iff_lt,beq_iff_eq]at hw wD wE;simp[du,wE];omega
           · refine k1 _ ?_;simp only[decide_eq_false_iff_not,Decidable.not_not,gt_iff_lt]at wD;simp[du,wD]
         · refine k1 _ ?_;simp only[decide_eq_false_iff_not,Decidable.not_not]at hw;simp[du,hw]
       · refine k1 _ ?_;simp[du]
    have k3 : ∀b:Bool,(b=true↔(f.bits=false∧f.width≠0))→ak (S.Nf Φ (.av t.cells) (.ptr H.n 0) Q) [.bool b] H1:=by
     intro b hb;simp only[aG,S.Nf,aA,cj,ab,Nat.zero_add,aa,r7];refine aN (fun h=>?_) (fun h=>?_)
     · have hn:¬(f.bits=false∧f.width≠0):=fun x=>by rw[hb.2 x]at h;cases h
       simp only[ck];refine aN (fun du=>?_) (fun du=>?_)
       · simp only[rk,eK,aa,cj];refine aN (fun hk=>?_) (fun hk=>?_)
         · have Dp:J H1 1 false (.av (t.cells.drop 2))=some (.bool t.packed):=xq t H1;simp only[Dp,aa];refine k2 _ ?_;simp only[bne_eq_false_iff_eq]at hk;simp[du,hk]
         · refine k2 _ ?_;simp only[Bool.not_eq_false,bne_iff_ne,ne_eq]at hk;simp[du,hk]
       · refine k2 _ ?_;simp only[Bool.not_eq_true]at du;simp only[du]at hn ⊢;simp at hn;simp[hn]
     · refine k2 _ ?_;have:=hb.1 (by simpa using h);simp[this]
    simp only[ab,Nat.zero_add,aa,r7,gk,ck,r8,eK];refine aN (fun du=>?_) (fun du=>?_)
    · refine k3 _ ?_;simp only[Bool.not_eq_true']at du;simp[du]
    · refine k3 _ ?_;simp only[Bool.not_eq_true',Bool.not_eq_false]at du;simp[du]
 have k5:∀b:Bool,¬(gH f.name=false∧(f.name≠[]∨f.bits=false))→(b=true↔(f.name≠[]∧((t.fields.take i).map aP.name).contains f.name=true))→ak (S.Ng Φ (.av t.cells) (.ptr H.n 0) Q) [.bool b] H1:=by
  intro b n1 hb;simp only[aG,S.Ng,aA,aD];refine aN (fun h=>?_) (fun h=>?_)
  ·exact fin _ (by rw[wY,if_neg n1,if_pos (hb.1 h)])
  ·exact k4 n1 fun x=>h (hb.2 x)
 have k6 : ∀b:Bool,(b=true↔(gH f.name=false∧(f.name≠[]∨f.bits=false)))→ak (S.HJ Φ (.int .i64 i) (.av t.cells) (.ptr H.n 0) Q) [.bool b] H1:=by
  intro b hb;simp only[aG,S.HJ,aA,aD,ab,Nat.zero_add,Nat.add_zero,aa,r0,yw,ck];refine aN (fun h=>?_) (fun h=>?_)
  ·exact fin _ (by rw[wY,if_pos (hb.1 h)])
  · have n1:¬(gH f.name=false∧(f.name≠[]∨f.bits=false)):=fun x=>h (hb.2 x);refine aN (fun bU=>?_) (fun bU=>?_)
    · have wv:J H1 1 false (.av (t.cells.drop 3))=some (aQ aP.cells t.fields):=kV t H1;simp only[wv,aa];rw[aal aP.len (Nat.le_of_lt aO)];simp only[aa];refine R5 hT (p:=fun g=>g.name==f.name) (fun x hx R hR=>?_) (by rw[List.length_take];omega) ?_
      ·exact S.aoZ hT (anB ef (Fb f) hR)
      · refine k5 _ n1 ?_;simp only[Bool.not_eq_true',beq_eq_false_iff_ne,ne_eq]at bU;rw[List.any_eq_true,List.contains_iff_mem,List.mem_map];simp only[beq_iff_eq,ne_eq,bU,not_false_eq_true,true_and]
    · refine k5 _ n1 ?_;simp only[Bool.not_eq_true',beq_eq_false_iff_ne,ne_eq,Decidable.not_not]at bU;simp[bU]
 simp only[gk,aa,ck,r0,yw,cj,r7];refine aN (fun h1=>?_) (fun h1=>?_)
 · simp only[Bool.not_eq_true']at h1;refine aN (fun h2=>?_) (fun h2=>?_)
   · refine k6 _ ?_;simp only[Bool.not_eq_false',beq_iff_eq]at h2;simp[h1,h2,gH]
   · refine k6 _ ?_;simp only[Bool.not_eq_false',beq_iff_eq]at h2;simp[h1,h2]
 · refine k6 _ ?_;simp only[Bool.not_eq_true',Bool.not_eq_false]at h1;simp[h1]
theorem ajR{t:aE}(hl:t.fields.length≤maxLen)
  (U7:t.fields.length≤32→∀(i:Nat)(f:aP),t.fields[i]?=some f→cG Φ K.f132 [.agg t.cells,.int .i64 i] (.int .i64 (mT t.packed ((t.fields.take i).map aP.name) f)))
  (hQ:Q (.int .i64 (if t.fields.length<1∨32<t.fields.length then 12 else kU t.packed [] t.fields)) H):S.f122 Φ (.agg t.cells) H Q:=by
 have fin:∀v,v=(if t.fields.length<1∨32<t.fields.length then 12 else kU t.packed [] t.fields)→Q (.int .i64 v) H:=fun v h=>by rw[h];exact hQ
 clear hQ;unfold S.f122;simp only[lu,bw,dt,kV,cu,bF,eY,aa,cj];have k3 : ∀b:Bool,(b=true↔(t.fields.length<1∨32<t.fields.length))→ak (S.M8 Φ (.av t.cells) Q) [.bool b] H:=by
  intro b hb;simp only[aG,S.M8,aA,aD];refine aN (fun h=>?_) (fun h=>?_)
  ·exact fin _ (by rw[if_pos (hb.1 h)])
  · have hn:¬(t.fields.length<1∨32<t.fields.length):=fun x=>h (hb.2 x);rw[if_neg hn]at fin;simp only[S.abY,dt,kV,cu,aa];have main:∀(rest:List aP)(i:Nat),t.fields.drop i=rest→kU t.packed ((t.fields.take i).map aP.name) rest=kU t.packed [] t.fields→aB (S.M9 Φ (.av t.cells) (.int .i64 t.fields.length) Q) ([.int .i64 i],H):=by
     intro rest;induction rest with
     | nil=>intro i hd hs;have hle:=fe hd;refine aB.step ?_;simp only[S.M9,aA,bF,aa,aD];rw[if_neg (by simp only[decide_eq_true_eq];omega)];exact fin _ (by rw[←hs];rfl)
     | cons f rest ih=>
      intro i hd hs;obtain⟨aO,hf,bC⟩:=eX hd;refine aB.step ?_;simp only[S.M9,aA,bF,aa,aD];rw[if_pos (by simp only[decide_eq_true_eq];omega)];simp only[qT,aa];refine U7 (by omega) i f hf _ _ ?_;simp only[eK,aa,aD];simp only[kU]at hs;refine aN (fun h=>?_) (fun h=>?_)
      · have h':mT t.packed ((t.fields.take i).map aP.name) f≠0:=by simpa using h
        rw[if_pos h']at hs;exact fin _ hs
      · have h':¬mT t.packed ((t.fields.take i).map aP.name) f≠0:=by simpa using h
        rw[if_neg h']at hs;simp only[cp,aa];rw[wrap_i64 (by omega) (by omega),show((i:Int)+1)=((i+1:Nat):Int) by simp];refine ih (i+1) bC ?_;rw[List.take_add_one,hf];simpa using hs
    exact main t.fields 0 rfl rfl
 refine aN (fun h=>?_) (fun h=>?_)
 · refine k3 _ ?_;simp only[decide_eq_false_iff_not]at h;simp only[decide_eq_true_eq,gt_iff_lt];omega
 · refine k3 _ ?_;simp only[decide_eq_false_iff_not,Decidable.not_not]at h;simp only[true_iff];omega
theorem ajS(hT:Cl Φ S.cH){t:aE}(U8:cG Φ K.f122 [.agg t.cells] (.int .i64 (if t.fields.length<1∨32<t.fields.length then 12 else kU t.packed [] t.fields)))
  (avk:∀e∈t.elem,cG Φ K.f103 [.agg e.cells] (.int .i64 (ed e))) (hQ:Q (.int .i64 (ed t)) H):S.f103 Φ (.agg t.cells) H Q:=by
 have fin:∀v,v=ed t→Q (.int .i64 v) H:=fun v h=>by rw[h];exact hQ
 clear hQ;rw[m9]at fin;unfold S.f103;simp only[lu,bw,qT,aa];refine S.aoP hT (ajX ?_);simp only[gk,aa,aD];refine aN (fun h=>?_) (fun h=>?_)
 ·exact fin _ (by rw[if_pos (by simpa using h)])
 · have ho : lz t.kind t.size t.packed t.fields.length t.count t.elem.length=true:=by simpa using h
   rw[ho]at fin;simp only[Bool.true_eq_false,if_false]at fin;simp only[dt,qm,vy,Aw,nt,cn,bF,eY,aa,aD,cj,beq_iff_eq];refine aN (fun h1=>?_) (fun h1=>?_)
   · rw[if_pos h1]at fin;refine S.abK hT (Zl (.inl rfl) ?_);simp only[gk,aa,aD];refine aN (fun h2=>?_) (fun h2=>?_)
     ·exact fin _ (by rw[if_neg (by simpa using h2)])
     ·exact fin _ (by rw[if_pos (by simpa using h2)])
   · rw [if_neg h1]at fin;refine aN (fun h2=>?_) (fun h2=>?_)
     · rw[if_pos h2]at fin;refine S.abK hT (Zl (.inr rfl) ?_);simp only[gk,aa,aD];refine aN (fun h2=>?_) (fun h2=>?_)
       ·exact fin _ (by rw[if_neg (by simpa using h2)])
       ·exact fin _ (by rw[if_pos (by simpa using h2)])
     · rw [if_neg h2]at fin;refine aN (fun h5=>?_) (fun h5=>?_)
       · rw [if_pos h5]at fin;obtain ⟨e,he⟩:∃e,t.elem=[e]:=by
          have:t.elem.length=1:=by simp only[lz,h5]at ho;simp at ho;exact ho.2
          exact List.length_eq_one_iff.1 this
         have k2:∀b:Bool,(b=true↔(t.count<1∨65536<t.count))→ak (S.MP Φ (.av t.cells) Q) [.bool b] H:=by
          intro b hb;simp only[aG,S.MP,aA,aD];refine aN (fun h=>?_) (fun h=>?_)
          ·exact fin _ (by rw[if_pos (hb.1 h)])
          · rw[if_neg fun x=>h (hb.2 x)]at fin;simp only[S.abR,dt,nt,aa];have ha:bj none 6 (aQ aE.cells t.elem) (.int .i64 0)=some (iB aE.cells 6 t.elem 0):=d_ (by rw[he];simp);rw[ha];simp only[aa];rw[gO aE.len (by decide) _ (show t.elem[0]?=some e by rw[he];rfl)];simp only[aa];refine avk e (by rw[he];simp) _ _ ?_;exact fin _ (by rw[he];rfl)
         refine aN (fun h=>?_) (fun h=>?_)
         · refine k2 _ ?_;have h':¬t.count<1:=by simpa using h
           simp only[decide_eq_true_eq,gt_iff_lt];omega
         · refine k2 _ ?_;have h':t.count<1:=by simpa using h
           simp only[true_iff];omega
       · rw[if_neg h5]at fin;refine U8 _ _ ?_;exact fin _ rfl
end
section
variable{C:Ctx}(aw:dz C)(hT:Cl (au C) S.cH)
include aw hT
theorem Sd(s:List UInt8):cG (au C) K.f41 [.str s] (.bool (gH s)):=cG.of aw rfl rfl fun Q hQ=>S.aq0 hT (ajW hT hQ)
theorem aka:∀(m:Nat),1≤m→m≤65→∀t:aE,t.ok→cG (au C) K.f119 [.agg t.cells,.int .i64 m] (.int .i64 (im m t)):=by
 intro m;induction m with
 |zero=>intro h;omega
 | succ m ih=>
  intro _ hm t ht;have jx:t.fields.length≤maxLen∧(∀f∈t.fields,f.ok)∧t.elem.length≤maxLen∧∀e∈t.elem,e.ok:=by
   cases t with
   | mk kind size packed fields count elem=>obtain⟨_,_,h1,h2,_,h3,h4⟩:=ht;exact⟨h1,aP.iW.1 h2,h3,aE.iW.1 h4⟩
  refine cG.of aw (by simp[AV.dD,AV.cD,aE.cD]) rfl fun Q hQ=>S.aoO hT (ajP (by omega) hm jx.1 jx.2.2.1 (fun h1 f hf=>?_) (fun h1 e he=>?_) hQ)
  · have:=ih (by omega) (by omega) f.type (by have:=jx.2.1 f hf;cases f;exact this.2.1);exact this
  ·exact ih (by omega) (by omega) e (jx.2.2.2 e he)
theorem akb:∀t:aE,t.ok→cG (au C) K.f103 [.agg t.cells] (.int .i64 (ed t)):=by
 refine aE.ind fun t mH k_ ht=>?_;have jx:t.fields.length≤maxLen∧(∀f∈t.fields,f.ok)∧t.elem.length≤maxLen∧∀e∈t.elem,e.ok:=by
  cases t with
  | mk kind size packed fields count elem=>obtain⟨_,_,h1,h2,_,h3,h4⟩:=ht;exact⟨h1,aP.iW.1 h2,h3,aE.iW.1 h4⟩
 have U7:t.fields.length≤32→∀(i:Nat)(f:aP),t.fields[i]?=some f→cG (au C) K.f132 [.agg t.cells,.int .i64 i] (.int .i64 (mT t.packed ((t.fields.take i).map aP.name) f)):=by intro hl i f hf;have gI:=List.mem_of_getElem? hf;exact cG.of aw (by simp[AV.dD,AV.cD,aE.cD]) rfl fun Q hQ=>S.aoX hT (ajQ hT hf hl (mH f gI (by have:=jx.2.1 f gI;cases f;exact this.2.1)) (Sd aw hT) hQ)
 have U8:cG (au C) K.f122 [.agg t.cells] (.int .i64 (if t.fields.length<1∨32<t.fields.length then 12 else kU t.packed [] t.fields)):=
  fun H Q hQ=>S.aoQ hT (ajR jx.1 U7 hQ)
 exact fun H Q hQ=>S.aoB hT (ajS hT U8 (fun e he=>k_ e he (jx.2.2.2 e he)) hQ)
theorem Zq(t:aE)(ht:t.ok):cG (au C) K.f75 [.agg t.cells] (.int .i64 (iI t)):=by
 intro H Q hQ;refine S.ary hT ?_;unfold S.f75;simp only[lu,bw,qT,aa];refine S.aoA hT ?_;unfold S.f102;simp only[lu,bw,qT,aa];refine aka aw hT 65 (by omega) (by omega) t ht _ _ ?_;simp only[eY,aa,aD];unfold iI at hQ;refine aN (fun h=>?_) (fun h=>?_)
 ·rw[if_pos (by simpa using h)]at hQ;exact hQ
 · rw[if_neg (by simpa using h)]at hQ;exact akb aw hT t ht _ _ hQ
end
end Rb

namespace Rb
open Go
def gZ:List AV:=[.int .i64 0,.int .i64 0,.bool false,.aq .nil 0 [],.int .i64 0,.aq .nil 0 []]
def mB(r:Int×aE):AV:=if r.1=0 then .aM [.agg r.2.cells,.int .i64 0]else .aM [.agg gZ,.int .i64 r.1]
def fU(t:aE)(x:a_):Int×aE:=
 if 1<x.index.length∨(x.index.length=1↔x.field≠[])then(8,t)
 else if x.index.length=1∧t.kind=5 then(match t.elem with|e::_=>(0,e)|[]=>(8,t))
 else if x.index.length=1∨¬(t.kind=3∨t.kind=4)then(8,t)
 else match t.fields.find? (fun f=>f.name==x.field)with|some f=>(0,f.type)|none=>(6,t)
def m_:aE→List a_→Int×aE
 |t,[]=>(0,t)
 |t,p::r=>if(fU t p).1≠0 then fU t p else m_ (fU t p).2 r
def dm(vars:List aK)(x:aT):Int×aE:=
 match vars.find? (fun v=>v.name==x.var)with
 |none=>(6,⟨0,0,false,[],0,[]⟩)
 |some v=>if iI v.type≠0 then(iI v.type,v.type)else m_ v.type x.parts
theorem Bv{packed:Bool}:∀{l:List aP}{seen:List (List UInt8)},kU packed seen l=0→∀f∈l,ed f.type=0
 |[],_,_,f,hf=>by cases hf
 | g :: r,seen,h,f,hf=>by
  simp only[kU]at h;have h0:mT packed seen g=0:=by
   by_cases hz:mT packed seen g=0
   ·exact hz
   ·rw[if_pos hz]at h;exact absurd h hz
  rw[if_neg (by simpa using h0)]at h;rcases List.mem_cons.1 hf with rfl|hf
  · rw [wY]at h0;split at h0
    ·cases h0
    · split at h0
      ·cases h0
      · split at h0
        ·rename_i hz;exact absurd h0 hz
        ·rename_i hz;simpa using hz
  ·exact Bv h f hf
theorem wZ{t:aE}(h:ed t=0)(hk:t.kind=5):∃e,t.elem=[e]∧ed e=0:=by
 rw[m9,hk]at h;split at h
 ·cases h
 · rename_i ho;simp only[Bool.not_eq_false]at ho;obtain ⟨e,he⟩:∃e,t.elem=[e]:=by
    have:t.elem.length=1:=by simp[lz]at ho;exact ho.2
    exact List.length_eq_one_iff.1 this
   refine⟨e,he,?_⟩;simp at h;split at h
   ·cases h
   ·rw[he]at h;exact h
theorem Ae{t:aE}(h:ed t=0)(hk:t.kind=3∨t.kind=4):(∀f∈t.fields,ed f.type=0)∧t.fields.length≤32:=by
 rw[m9]at h;have k1:t.kind≠1:=by omega
 have k2:t.kind≠2:=by omega
 have k5:t.kind≠5:=by omega
 rw[if_neg k1,if_neg k2,if_neg k5]at h;split at h
 ·cases h
 · split at h
   ·cases h
   ·exact⟨fun f hf=>Bv h f hf,by omega⟩
theorem aaN{t:aE}{x:a_}(h:ed t=0)(h0:(fU t x).1=0):ed (fU t x).2=0:=by
 unfold fU at h0 ⊢;split
 ·rename_i hc;rw[if_pos hc]at h0;cases h0
 · rename_i hc;rw[if_neg hc]at h0;split
   ·rename_i hc;obtain⟨e,he,hs⟩:=wZ h hc.2;rw[he];exact hs
   · rename_i hc;rw[if_neg hc]at h0;split
     ·rename_i hc;rw[if_pos hc]at h0;cases h0
     · rename_i hc;rw[if_neg hc]at h0;split
       · rename_i f hf;exact(Ae h (by omega)).1 f (List.mem_of_find?_eq_some hf)
       ·rename_i hf;rw[hf]at h0;cases h0
theorem BA{α:Type}(p:α→Bool)(xs:List α):(∃i x,xs.findIdx? p=some i∧xs.find? p=some x∧xs[i]?=some x)∨(xs.findIdx? p=none∧xs.find? p=none):=by
 induction xs with
 |nil=>right;simp
 | cons y ys ih=>
  rw[List.findIdx?_cons,List.find?_cons];by_cases h:p y=true
  ·left;exact⟨0,y,by simp[h],by simp[h],rfl⟩
  · simp only[h,if_false,Bool.false_eq_true];rcases ih with⟨i,x,h1,h2,h3⟩|⟨h1,h2⟩
    ·left;exact⟨i+1,x,by simp[h1],by simp[h2],by simpa using h3⟩
    ·right;simp[h1,h2]
section
variable{Φ:aj}{H:AH}{Q:ae}
theorem At.put{H:AH}{id n:Nat}{cs ds:List AV}(h:At H id (.row cs))(hc:cs.length=n)(hd:ds.length=n)(hs:ds.all AV.scalar=true):aH H n (.ptr id 0) (.agg ds)=some (H.set id (.row ds)):=by rw[h.store,if_pos ⟨rfl,hd,hs,by omega⟩];congr 3;show setCells cs 0 ds=ds;rw[Sh (by omega)];rfl
theorem At.all{H:AH}{id n:Nat}{cs:List AV}(h:At H id (.row cs))(hc:cs.length=n):J H n true (.ptr id 0)=some (.agg cs):=by rw[h.load,mK hc]
theorem at5(x:a_)(H:AH):bB H false 2 (.agg x.cells)=some (.av x.cells,H):=by unfold bB;rw[if_pos ⟨rfl,x.len⟩];rfl
theorem T6(x:a_)(i:Nat):ab i (.av x.cells)=some (.av (x.cells.drop i)):=rfl
theorem agB(x:a_)(H:AH):J H 1 false (.av (x.cells.drop 0))=some (.str x.field):=by rw[a_.bf];rfl
theorem VM(x:a_)(H:AH):J H 1 false (.av (x.cells.drop 1))=some (aQ aF.cells x.index):=by rw[a_.bf];rfl
theorem Mc:bJ [.int .i64 0,.int .i64 0,.bool false,.aq .nil 0 [],.int .i64 0,.aq .nil 0 []] []=some (.agg gZ):=rfl
theorem aqe{g:aP}{x:a_}(hQ:Q (.bool (g.name==x.field)) H):S.f131 Φ (.agg g.cells) (.av x.cells) H Q:=by
 unfold S.f131;have hb:bB H false 9 (.agg g.cells)=some (.av g.cells,H):=by unfold bB;rw[if_pos ⟨rfl,g.len⟩];rfl
 have l0:J H 1 false (.av (g.cells.drop 0))=some (.str g.name):=Fb g;have l1:J H 1 false (.av (x.cells.drop 0))=some (.str x.field):=agB x H;rw[hb];simp only[bw,ab,aa,l0,l1,lq];exact hQ
theorem ajO(hT : Cl Φ S.cH){t:aE}{x:a_}(hs:ed t=0)(hl:x.index.length≤maxLen)(hQ:∀H',Q (mB (fU t x)) H'):S.f117 Φ (.agg t.cells) (.agg x.cells) H Q:=by
 have fin:∀v H',v=mB (fU t x)→Q v H':=fun v H' h=>by rw[h];exact hQ H'
 clear hQ;unfold S.f117;simp only[lu,at5,bw,dt,qm,cn,aa,cj,aG,be,if_true];have ef:=At.new H (.row gZ);change At (H.push (.row [.int .i64 0,.int .i64 0,.bool false,.aq .nil 0 [],.int .i64 0,.aq .nil 0 []])) H.n _ at ef;generalize (H.push (.row [.int .i64 0,.int .i64 0,.bool false,.aq .nil 0 [],.int .i64 0,.aq .nil 0 []]))=H1 at *;generalize H.n=id at *;have bad:∀e:Int,e≠0→(fU t x).1=e→Do (bJ [.int .i64 0,.int .i64 0,.bool false,.aq .nil 0 [],.int .i64 0,.aq .nil 0 []] []) fun cK=>
   Do (aH H1 6 (.ptr id 0) cK) fun dW=>
   Do (J dW 6 true (.ptr id 0)) fun cO=>
   Q (.aM [cO,(.int .i64 e)]) dW:=by
  intro e he h;rw[Mc];simp only[aa];rw[ef.put (n:=6) rfl rfl rfl];simp only[aa];rw[(ef.set _).all (n:=6) rfl];simp only[aa];refine fin _ _ ?_;unfold mB;rw[h,if_neg he]
 have y5:∀u:aE,fU t x=(0,u)→∀H1,At H1 id (.row gZ)→Do (aH H1 6 (.ptr id 0) (.agg u.cells)) fun vY=>
   Do (J vY 6 true (.ptr id 0)) fun ji=>
   Q (.aM [ji,(.int .i64 0)]) vY:=by
  intro u hu H1 ef;rw[ef.put (n:=6) rfl u.len u.scalar];simp only[aa];rw[(ef.set _).all u.len];simp only[aa];refine fin _ _ ?_;unfold mB;rw[hu];rfl
 have k5 : ∀ b : Bool,(b=true↔(t.kind=3∨t.kind=4))→S.M2 Φ (.av t.cells) (.av x.cells) (.ptr id 0) Q [.bool b] H1:=by
  intro b hb;have k4 : ∀ c : Bool,(c=true↔(1<x.index.length∨(x.index.length=1↔x.field≠[])))→S.M1 Φ (.av t.cells) (.av x.cells) (.ptr id 0) [.bool b] Q [.bool c] H1:=by
   intro c hc;simp only[S.M1,aA,aD];refine aN (fun h=>?_) (fun h=>?_)
   ·exact bad 8 (by decide) (by unfold fU;rw[if_pos (hc.1 h)])
   · have n1 : ¬(1<x.index.length∨(x.index.length=1↔x.field≠[])):=fun y=>h (hc.2 y);have k3 : ∀d:Bool,(d=true↔(x.index.length=1∧t.kind=5))→S.M0 Φ (.av t.cells) (.av x.cells) (.ptr id 0) [.bool b] Q [.bool d] H1:=by
      intro d hd;simp only[S.M0,aA,aD];refine aN (fun h=>?_) (fun h=>?_)
      · obtain⟨h1,h5⟩:=hd.1 h;obtain⟨e,he,_⟩:=wZ hs h5;simp only[dt,nt,aa];have ha:bj none 6 (aQ aE.cells t.elem) (.int .i64 0)=some (iB aE.cells 6 t.elem 0):=d_ (by rw[he];simp);rw[ha];simp only[aa];rw[gO aE.len (by decide) _ (show t.elem[0]?=some e by rw[he];rfl)];simp only[aa];exact y5 e (by unfold fU;rw[if_neg n1,if_pos ⟨h1,h5⟩,he]) _ ef
      · have n2 : ¬(x.index.length=1∧t.kind=5):=fun y=>h (hd.2 y);have k2 : ∀g:Bool,(g=true↔(x.index.length=1∨¬(t.kind=3∨t.kind=4)))→S.MZ Φ (.av t.cells) (.av x.cells) (.ptr id 0) Q [.bool g] H1:=by
         intro g hg;simp only[S.MZ,aA,aD];refine aN (fun h=>?_) (fun h=>?_)
         ·exact bad 8 (by decide) (by unfold fU;rw[if_neg n1,if_neg n2,if_pos (hg.1 h)])
         · have n3:¬(x.index.length=1∨¬(t.kind=3∨t.kind=4)):=fun y=>h (hg.2 y);have aw0:t.kind=3∨t.kind=4:=by omega
           obtain⟨_,hlen⟩:=Ae hs aw0;simp only[aG,S.abX,dt,kV,aa];refine S.Tp hT ?_;refine fieldIndex (p:=fun f=>f.name==x.field) (fun f _ R hR=>S.aoW hT (aqe hR)) (by omega) ?_;simp only[bF,aa,aD];rcases BA (fun f:aP=>f.name==x.field) t.fields with⟨i,f,h1,h2,h3⟩|⟨h1,h2⟩
           · rw [h1];have aO:=(List.getElem?_eq_some_iff.1 h3).1;rw[if_neg (by show ¬(decide ((i:Int)<0)=true);rw[decide_eq_true_eq];omega)];simp only[kx];rw[d_ aO];have Ru:J H1 6 true (.av (((t.fields.flatMap aP.cells).drop (i*9)).drop 1))=some (.agg f.type.cells):=by
              show cC _ 0 6 true=_;rw[sU aP.len];have hd:t.fields.drop i=f::t.fields.drop (i+1):=by rw[List.drop_eq_getElem_cons aO];rw[List.getElem?_eq_getElem aO]at h3;simp at h3;rw[h3]
              rw[hd,List.flatMap_cons,aP.bf,List.cons_append,List.drop_succ_cons,List.drop_zero,List.append_assoc];exact Bq f.type.len
             simp only[aa,iB,ab,Ru];exact y5 f.type (by unfold fU;rw[if_neg n1,if_neg n2,if_neg n3,h2]) _ ef
           · rw[h1];rw[if_pos (by simp[kx])];exact bad 6 (by decide) (by unfold fU;rw[if_neg n1,if_neg n2,if_neg n3,h2])
        simp only[T6,VM,cu,cn,aa,cj,aG,gk];refine aN (fun h=>?_) (fun h=>?_)
        · refine k2 _ ?_;simp only[beq_eq_false_iff_ne,ne_eq]at h;have:¬x.index.length=1:=by omega
          rw[←hb];simp[this]
        · refine k2 _ ?_;simp only[Bool.not_eq_false,beq_iff_eq]at h;have:x.index.length=1:=by omega
          simp[this]
     simp only[T6,VM,cu,cn,aa,ck,aG,dt,qm];refine aN (fun h=>?_) (fun h=>?_)
     · refine k3 _ ?_;simp only[beq_iff_eq]at h;have:x.index.length=1:=by omega
       simp[this]
     · refine k3 _ ?_;simp only[beq_iff_eq]at h;have:¬x.index.length=1:=by omega
       simp[this]
  simp only[S.M2,T6,agB,VM,cu,eY,cn,yw,anq,Bool.false_eq_true,if_false,aa,cj,aG];refine aN (fun h=>?_) (fun h=>?_)
  · refine k4 _ ?_;simp only[decide_eq_false_iff_not,gt_iff_lt]at h;have h':¬1<x.index.length:=by omega
    simp only[h',false_or];by_cases hf:x.field=[]
    · by_cases h1:x.index.length=1
      ·simp[hf,h1]
      · have:¬((x.index.length:Int)=1):=by omega
        simp[hf,h1,this]
    · by_cases h1:x.index.length=1
      ·simp[hf,h1]
      · have e1:((x.index.length:Int)==1)=false:=by rw[beq_eq_false_iff_ne];omega
        have e2:x.field.isEmpty=false:=by simpa using hf
        simp[hf,h1,e1,e2]
  · refine k4 _ ?_;simp only[decide_eq_false_iff_not,gt_iff_lt,Decidable.not_not]at h;have h':1<x.index.length:=by omega
    simp[h']
 refine aN (fun h=>?_) (fun h=>?_)
 · refine k5 _ ?_;simp only[beq_eq_false_iff_ne,ne_eq]at h;simp[h]
 · refine k5 _ ?_;simp only[Bool.not_eq_false,beq_iff_eq]at h;simp[h]
end
end Rb

namespace Rb
open Go
theorem amf:AV.dD gZ=true:=rfl
theorem SW(r:Int×aE):(mB r).cD=true:=by
 unfold mB;split
 ·simp[AV.cD,AV.dD,aE.cD]
 ·simp[AV.cD,AV.dD,amf]
theorem Ji(v:aK):cC v.cells 0 1 false=some (.str v.name):=by unfold cC;rw[if_pos (by rw[v.len];omega)];rfl
theorem Ue(v:aK)(H:AH){vars:List aK}{i:Nat}(h:vars[i]?=some v):J H 6 true (.av (((vars.flatMap aK.cells).drop (i*7)).drop 1))=some (.agg v.type.cells):=by
 have aO:=(List.getElem?_eq_some_iff.1 h).1;show cC _ 0 6 true=_;rw[sU aK.len];have hd:vars.drop i=v::vars.drop (i+1):=by rw[List.drop_eq_getElem_cons aO];rw[List.getElem?_eq_getElem aO]at h;simp at h;rw[h]
 rw[hd,List.flatMap_cons,aK.cells,List.cons_append,List.drop_succ_cons,List.drop_zero];exact Bq v.type.len
theorem PO(x:aT)(H:AH):bB H false 2 (.agg x.cells)=some (.av x.cells,H):=by unfold bB;rw[if_pos ⟨rfl,x.len⟩];rfl
theorem BO(x:aT)(i:Nat):ab i (.av x.cells)=some (.av (x.cells.drop i)):=rfl
theorem VL(x:aT)(H:AH):J H 1 false (.av (x.cells.drop 0))=some (.str x.var):=by rw[aT.bf];rfl
theorem Ch(x:aT)(H:AH):J H 1 false (.av (x.cells.drop 1))=some (aQ a_.cells x.parts):=by rw[aT.bf];rfl
section
variable{Φ:aj}{H:AH}{Q:ae}
theorem an6{v:aK}{x:aT}(hQ:Q (.bool (v.name==x.var)) H):S.f116 Φ (.agg v.cells) (.av x.cells) H Q:=by
 unfold S.f116;have hb:bB H false 7 (.agg v.cells)=some (.av v.cells,H):=by unfold bB;rw[if_pos ⟨rfl,v.len⟩];rfl
 have l0:J H 1 false (.av (v.cells.drop 0))=some (.str v.name):=Ji v;have l1:J H 1 false (.av (x.cells.drop 0))=some (.str x.var):=VL x H;rw[hb];simp only[bw,ab,aa,l0,l1,lq];exact hQ
theorem Ti{p:aK→Bool}{key:Nat}{cA:List AV}{xs:List aK}(hf:∀x∈xs,∀(R:ae),R (.bool (p x)) H→Φ key ([.agg x.cells]++cA) H R)(hl:xs.length≤9223372036854775807)
  (hQ:Q (.int .i64 (kx (xs.findIdx? p))) H) (A9:ny key=none:=by first|assumption|rfl):S.f68 Φ (aQ aK.cells xs) (.fn key cA) H Q:=by
 have h:Hp 7 Φ (aQ aK.cells xs) (.fn key cA) H Q:=R6 aK.len (by decide) hf hl hQ;exact h
theorem ajJ(hT:Cl Φ S.cH){vars:List aK}{x:aT}(yg:vars.length≤maxLen)(Yk:x.parts.length≤maxLen)
  (U_:∀v∈vars,cG Φ K.f75 [.agg v.type.cells] (.int .i64 (iI v.type)))
  (Qo:∀(t:aE)(p:a_),ed t=0→p∈x.parts→cG Φ K.f117 [.agg t.cells,.agg p.cells] (mB (fU t p)))
  (hQ:∀H',Q (mB (dm vars x)) H'):S.f99 Φ (aQ aK.cells vars) (.agg x.cells) H Q:=by
 have hm:maxLen=9223372036854775807:=by decide
 rw[hm]at yg Yk;have fin:∀v H',v=mB (dm vars x)→Q v H':=fun v H' h=>by rw[h];exact hQ H'
 clear hQ;unfold S.f99;simp only[PO,bw,be,if_true];have QN:At (H.push (.row gZ)) H.n (.row gZ):=At.new H _;change At (H.push (.row [.int .i64 0,.int .i64 0,.bool false,.aq .nil 0 [],.int .i64 0,.aq .nil 0 []])) H.n _ at QN;generalize (H.push (.row [.int .i64 0,.int .i64 0,.bool false,.aq .nil 0 [],.int .i64 0,.aq .nil 0 []]))=H4 at *;generalize H.n=dK at *;have bad:∀(e:Int)(H1:AH),At H1 dK (.row gZ)→e≠0→(dm vars x).1=e→Do (bJ [.int .i64 0,.int .i64 0,.bool false,.aq .nil 0 [],.int .i64 0,.aq .nil 0 []] []) fun cK=>
   Do (aH H1 6 (.ptr dK 0) cK) fun dW=>
   Do (J dW 6 true (.ptr dK 0)) fun cO=>
   Q (.aM [cO,(.int .i64 e)]) dW:=by
  intro e H1 ef he h;rw[Mc];simp only[aa];rw[ef.put (n:=6) rfl rfl rfl];simp only[aa];rw[(ef.set _).all (n:=6) rfl];simp only[aa];refine fin _ _ ?_;unfold mB;rw[h,if_neg he]
 refine S.Uo hT ?_;refine Ti (p:=fun v=>v.name==x.var) (fun v _ R hR=>S.aoL hT (an6 hR)) yg ?_;simp only[bF,aa,aD];rcases BA (fun v:aK=>v.name==x.var) vars with⟨i,v,h1,h2,h3⟩|⟨h1,h2⟩
 · have aO:=(List.getElem?_eq_some_iff.1 h3).1;have gI:=List.mem_of_getElem? h3;have tX:dm vars x=if iI v.type≠0 then(iI v.type,v.type)else m_ v.type x.parts:=by unfold dm;rw[h2]
   rw[h1,if_neg (by show ¬(decide ((i:Int)<0)=true);rw[decide_eq_true_eq];omega)];simp only[kx];rw[d_ aO];simp only[aa,iB,ab,Ue v H4 h3,bw,be,if_true];rw[fC _ _ _ 6 v.type.len v.type.scalar rfl];simp only[aa];rw[jQ,mK v.type.len];simp only[aa];have avg:At (H4.push (.row v.type.cells)) H4.n (.row v.type.cells):=At.new H4 _;have bU:dK≠H4.n:=QN.qR;have agl:At (H4.push (.row v.type.cells)) dK (.row gZ):=QN.push _;generalize (H4.push (.row v.type.cells))=H5 at *;generalize H4.n=aho at *;refine U_ v gI _ _ ?_;simp only[eK,aa,aD];refine aN (fun h=>?_) (fun h=>?_)
   · have h':iI v.type≠0:=by simpa using h
     exact bad _ _ agl h' (by rw[tX,if_pos h'])
   · have h':iI v.type=0:=by simpa using h
     rw[if_neg (by simpa using h')]at tX;have hsn:ed v.type=0:=by
      unfold iI at h';split at h'
      ·cases h'
      ·exact h'
     have main:∀(ps:List a_)(i:Nat)(t:aE)(H1:AH),x.parts.drop i=ps→At H1 dK (.row gZ)→At H1 aho (.row t.cells)→ed t=0→m_ t ps=dm vars x →
       aB (S.PI Φ (.ptr dK 0) (.ptr aho 0) (aQ a_.cells x.parts) (.int .i64 x.parts.length) Q) ([.int .i64 i],H1):=by
      intro ps;induction ps with
      | nil=>intro i t H1 hd a3 Rc aX kW;have hle:=fe hd;refine aB.step ?_;simp only[S.PI,aA,bF,aa,aD];rw[if_neg (by simp only[decide_eq_true_eq];omega)];simp only[aG,S.aea];rw[Rc.all t.len];simp only[aa];rw[a3.put (n:=6) rfl t.len t.scalar];simp only[aa];rw[(a3.set _).all t.len];simp only[aa];refine fin _ _ ?_;rw[←kW];rfl
      | cons p ps ih=>
       intro i t H1 hd a3 Rc aX kW;obtain⟨aO,hp,bC⟩:=eX hd;refine aB.step ?_;simp only[S.PI,aA,bF,aa,aD];rw[if_pos (by simp only[decide_eq_true_eq];omega),d_ aO];simp only[aa];rw[gO a_.len (by decide) _ hp];simp only[aa,bw,be,if_true];rw[fC _ _ _ 2 p.len p.scalar rfl];simp only[aa];rw[(Rc.push _).all t.len,jQ,mK p.len];simp only[aa];refine Qo t p aX (List.mem_of_getElem? hp) _ _ ?_;simp only[m_]at kW;have b3:=a3.push (.row p.cells);have C7:=Rc.push (.row p.cells);generalize H1.push (.row p.cells)=H2 at *;by_cases he:(fU t p).1=0
       · rw[if_neg (by simpa using he)]at kW;have hr:mB (fU t p) = .aM [.agg (fU t p).2.cells,.int .i64 0]:=by unfold mB;rw[if_pos he]
         rw[hr];simp only[db,List.getElem?_cons_zero,List.getElem?_cons_succ,aa];rw[fC _ _ _ 6 (fU t p).2.len (fU t p).2.scalar rfl];simp only[aa,eK,aD];rw[if_neg (by decide),jQ,mK (fU t p).2.len];simp only[aa];rw[(C7.push _).put t.len (fU t p).2.len (fU t p).2.scalar];simp only[aa,cp];rw[wrap_i64 (by omega) (by omega),show((i:Int)+1)=((i+1:Nat):Int) by simp];exact ih (i+1) _ _ bC ((b3.push _).dq bU _) ((C7.push _).set _) (aaN aX he) kW
       · rw[if_pos he]at kW;have hr:mB (fU t p) = .aM [.agg gZ,.int .i64 (fU t p).1]:=by unfold mB;rw[if_neg he]
         rw[hr];simp only[db,List.getElem?_cons_zero,List.getElem?_cons_succ,aa];rw[fC _ _ _ 6 rfl rfl rfl];simp only[aa,eK,aD];rw[if_pos (by simpa using he)];exact bad _ _ (b3.push _) he (by rw[←kW])
     simp only[BO,Ch,cu,aa];exact main x.parts 0 v.type H5 rfl agl avg hsn tX.symm
 · rw[h1,if_pos (by simp[kx])];exact bad 6 _ QN (by decide) (by unfold dm;rw[h2])
end
end Rb

namespace Rb
open Go
mutual
def iN:aE→Bool
 | .mk kind size packed fields count elem=>((kind==2&&decide (size>1))||ND elem)||NF fields
def atW:aP→Bool
 | .mk name type bits width=>iN type
def ND:List aE→Bool
 |[]=>false
 |t::r=>iN t||ND r
def NF:List aP→Bool
 |[]=>false
 |f::r=>atW f||NF r
end
mutual
def jl:aE→Bool
 | .mk kind size packed fields count elem=>((packed&&iN (.mk kind size packed fields count elem))||PW elem)||PX fields
def avY:aP→Bool
 | .mk name type bits width=>jl type
def PW:List aE→Bool
 |[]=>false
 |t::r=>jl t||PW r
def PX:List aP→Bool
 |[]=>false
 |f::r=>avY f||PX r
end
theorem ZO:∀l:List aE,ND l=l.any iN
 |[]=>rfl
 |t::r=>by rw[ND,ZO r,List.any_cons]
theorem ZP:∀l:List aP,NF l=l.any fun f=>iN f.type
 |[]=>rfl
 |f::r=>by rw[NF,ZP r,List.any_cons];cases f;rfl
theorem SC:∀l:List aE,PW l=l.any jl
 |[]=>rfl
 |t::r=>by rw[PW,SC r,List.any_cons]
theorem SD:∀l:List aP,PX l=l.any fun f=>jl f.type
 |[]=>rfl
 |f::r=>by rw[PX,SD r,List.any_cons];cases f;rfl
theorem aaI(t:aE):iN t=(((t.kind==2&&decide (t.size>1))||t.elem.any iN)||t.fields.any fun f=>iN f.type):=by cases t;rw[iN,ZO,ZP]
theorem aby(t:aE):jl t=(((t.packed&&iN t)||t.elem.any jl)||t.fields.any fun f=>jl f.type):=by cases t;rw[jl,SC,SD]
theorem eS{t:aE}(ht:t.ok):t.fields.length≤9223372036854775807∧(∀f∈t.fields,f.type.ok)∧t.elem.length≤9223372036854775807∧∀e∈t.elem,e.ok:=by
 have hm:maxLen=9223372036854775807:=by decide
 cases t with
 | mk kind size packed fields count elem=>obtain⟨_,_,h1,h2,_,h3,h4⟩:=ht;rw[hm]at h1 h3;exact⟨h1,fun f hf=>by have:=aP.iW.1 h2 f hf;cases f;exact this.2.1,h3,aE.iW.1 h4⟩
section
variable{Φ:aj}{H:AH}{Q:ae}
theorem ang{p:aE→Bool}{key:Nat}{cA:List AV}{xs:List aE}(hf:∀x∈xs,∀(R:ae),R (.bool (p x)) H→Φ key ([.agg x.cells]++cA) H R)(hl:xs.length≤9223372036854775807)
  (hQ:Q (.int .i64 (kx (xs.findIdx? p))) H) (A9:ny key=none:=by first|assumption|rfl):S.f124 Φ (aQ aE.cells xs) (.fn key cA) H Q:=by
 have h:Hp 6 Φ (aQ aE.cells xs) (.fn key cA) H Q:=R6 aE.len (by decide) hf hl hQ;exact h
theorem Zs(hT:Cl Φ S.cH){p:aE→Bool}{key:Nat}{cA:List AV}{xs:List aE}(hf:∀x∈xs,∀(R:ae),R (.bool (p x)) H→Φ key ([.agg x.cells]++cA) H R)(hl:xs.length≤9223372036854775807)
  (hQ:Q (.bool (xs.any p)) H) (A9:ny key=none:=by first|assumption|rfl):Φ K.f105 [aQ aE.cells xs,.fn key cA] H Q:=by
 refine S.aoD hT ?_;unfold S.f105;refine S.aoS hT (ang hf hl ?_);simp only[kG,aa,MA];exact hQ
theorem PJ(f:aP)(H:AH):bB H false 9 (.agg f.cells)=some (.av f.cells,H):=by unfold bB;rw[if_pos ⟨rfl,f.len⟩];rfl
theorem ab_(f:aP)(H:AH):J H 6 true (.av (f.cells.drop 1))=some (.agg f.type.cells):=by show cC _ 0 6 true=_;rw[aP.bf,List.drop_succ_cons,List.drop_zero];exact Bq f.type.len
theorem al3(hT:Cl Φ S.cH){t:aE}(zH:t.fields.length≤9223372036854775807)(hle:t.elem.length≤9223372036854775807)(hf:∀f∈t.fields,cG Φ K.f104 [.agg f.type.cells] (.bool (iN f.type)))
  (he:∀e∈t.elem,cG Φ K.f104 [.agg e.cells] (.bool (iN e))) (hQ:Q (.bool (iN t)) H):S.f104 Φ (.agg t.cells) H Q:=by
 have fin:∀b,b=iN t→Q (.bool b) H:=fun b h=>by rw[h];exact hQ
 clear hQ;rw[aaI]at fin;unfold S.f104;simp only[lu,bw,dt,qm,vy,cn,eY,aa,ck];have k1:∀b:Bool,b=((t.kind==2&&decide (t.size>1))||t.elem.any iN)→ak (S.MQ Φ (.av t.cells) Q) [.bool b] H:=by
  intro b hb;rw[←hb]at fin;simp only[aG,S.MQ,aA,cj,dt,kV,aa];refine aN (fun h=>?_) (fun h=>?_)
  · refine R5 hT (p:=fun f=>iN f.type) (fun f Yf R hR=>?_) zH (fin _ (by rw[h];rfl));refine S.aoR hT ?_;unfold S.f123;simp only[PJ,bw,ab,aa,ab_];exact hf f Yf _ _ hR
  · simp only[Bool.not_eq_false]at h;exact fin _ (by rw[h];rfl)
 have k2:∀b:Bool,b=(t.kind==2&&decide (t.size>1))→ak (S.MR Φ (.av t.cells) Q) [.bool b] H:=by
  intro b hb;rw[←hb]at k1;simp only[aG,S.MR,aA,cj,dt,nt,aa];refine aN (fun h=>?_) (fun h=>?_)
  ·refine Zs hT (p:=iN) (fun e pP R hR=>he e pP _ _ hR) hle (k1 _ (by rw[h];rfl))
  · simp only[Bool.not_eq_false]at h;exact k1 _ (by rw[h];rfl)
 refine aN (fun h=>?_) (fun h=>?_)
 ·exact k2 _ (by rw[h];rfl)
 · simp only[Bool.not_eq_true]at h;exact k2 _ (by rw[h];rfl)
theorem anc(hT:Cl Φ S.cH){t:aE}(zH:t.fields.length≤9223372036854775807)(hle:t.elem.length≤9223372036854775807)(atO:cG Φ K.f104 [.agg t.cells] (.bool (iN t)))(hf:∀f∈t.fields,cG Φ K.f76 [.agg f.type.cells] (.bool (jl f.type)))
  (he:∀e∈t.elem,cG Φ K.f76 [.agg e.cells] (.bool (jl e))) (hQ:Q (.bool (jl t)) H):S.f76 Φ (.agg t.cells) H Q:=by
 have fin:∀b,b=jl t→Q (.bool b) H:=fun b h=>by rw[h];exact hQ
 clear hQ;rw[aby]at fin;unfold S.f76;simp only[lu,bw,dt,xq,qT,aa,ck];have k1:∀b:Bool,b=((t.packed&&iN t)||t.elem.any jl)→ak (S.Pv Φ (.av t.cells) Q) [.bool b] H:=by
  intro b hb;rw[←hb]at fin;simp only[aG,S.Pv,aA,cj,dt,kV,aa];refine aN (fun h=>?_) (fun h=>?_)
  · refine R5 hT (p:=fun f=>jl f.type) (fun f Yf R hR=>?_) zH (fin _ (by rw[h];rfl));refine S.aoF hT ?_;unfold S.f107;simp only[PJ,bw,ab,aa,ab_];exact hf f Yf _ _ hR
  · simp only[Bool.not_eq_false]at h;exact fin _ (by rw[h];rfl)
 have k2:∀b:Bool,b=(t.packed&&iN t)→ak (S.Pw Φ (.av t.cells) Q) [.bool b] H:=by
  intro b hb;rw[←hb]at k1;simp only[aG,S.Pw,aA,cj,dt,nt,aa];refine aN (fun h=>?_) (fun h=>?_)
  ·refine Zs hT (p:=jl) (fun e pP R hR=>he e pP _ _ hR) hle (k1 _ (by rw[h];rfl))
  · simp only[Bool.not_eq_false]at h;exact k1 _ (by rw[h];rfl)
 refine aN (fun h=>?_) (fun h=>?_)
 ·exact atO _ _ (k2 _ (by rw[h];rfl))
 · simp only[Bool.not_eq_true]at h;exact k2 _ (by rw[h];rfl)
def dX(n step:Int):Int:=IntKind.wrap .i64 (IntKind.wrap .i64 ((IntKind.wrap .i64 (IntKind.wrap .i64 (n+step)-1)).tdiv step)*step)
theorem Eg{n step:Int}(h:step≠0)(hQ:Q (.int .i64 (dX n step)) H):S.f127 Φ (.int .i64 n) (.int .i64 step) H Q:=by unfold S.f127;simp only[cp,nM,aa];rw[wQ _ _ _ h];simp only[aa,m7];exact hQ
theorem auu{n step:Int}(h1:0≤n)(h2:n≤1000000000)(h3:1≤step)(h4:step≤1000000):dX n step=(n+step-1)/step*step:=by
 unfold dX;have hs:step≠0:=by omega
 have e1:=Int.ediv_mul_le (n+step-1) hs;have e2:0≤(n+step-1)/step:=Int.ediv_nonneg (by omega) (by omega);have e3:(n+step-1)/step≤n+step-1:=Int.ediv_le_self _ (by omega);have e4:0≤(n+step-1)/step*step:=Int.mul_nonneg e2 (by omega);rw[wrap_i64 (n:=n+step) (by omega) (by omega),wrap_i64 (n:=n+step-1) (by omega) (by omega),Int.tdiv_eq_ediv_of_nonneg (by omega),wrap_i64 (n:=(n+step-1)/step) (by omega) (by omega),wrap_i64 (by omega) (by omega)]
end
section
variable{C:Ctx}(hT:Cl (au C) S.cH)
include hT
theorem amU:∀t:aE,t.ok→cG (au C) K.f104 [.agg t.cells] (.bool (iN t)):=by refine aE.ind fun t mH k_ ht=>?_;obtain⟨h1,h2,h3,h4⟩:=eS ht;exact fun H Q hQ=>S.aoC hT (al3 hT h1 h3 (fun f hf=>mH f hf (h2 f hf)) (fun e he=>k_ e he (h4 e he)) hQ)
theorem aoj:∀t:aE,t.ok→cG (au C) K.f76 [.agg t.cells] (.bool (jl t)):=by refine aE.ind fun t mH k_ ht=>?_;obtain⟨h1,h2,h3,h4⟩:=eS ht;exact fun H Q hQ=>S.arz hT (anc hT h1 h3 (amU hT t ht) (fun f hf=>mH f hf (h2 f hf)) (fun e he=>k_ e he (h4 e he)) hQ)
end
end Rb

namespace Rb
open Go
structure ec where
 at_:Int
 len:Int
 kind:Int
 bits:Bool
 bit:Int
 width:Int
def ec.cells(s:ec):List AV:=[.int .i64 s.at_,.int .i64 s.len,.int .i64 s.kind,.bool s.bits,.int .i64 s.bit,.int .i64 s.width]
structure PL where
 size:Int
 align:Int
 gS:List ec
 bit:Int
abbrev aR(n:Int):Int:=IntKind.wrap .i64 n
def ph(p:PL)(f:aP):Int:=if aR (p.bit.tdiv (aR (8*f.type.size)))≠aR ((aR (aR (p.bit+f.width)-1)).tdiv (aR (8*f.type.size)))then dX p.bit (aR (8*f.type.size))else p.bit
def xi(p:PL)(f:aP):PL:=
 if f.width=0 then
  {p with bit:=dX p.bit (aR (8*f.type.size)),gS:=p.gS++[⟨aR ((dX p.bit (aR (8*f.type.size))).tdiv 8),0,1,true,(dX p.bit (aR (8*f.type.size))).tmod 8,0⟩]}
 else
  {p with bit:=aR (ph p f+f.width),gS:=p.gS++[⟨aR ((ph p f).tdiv 8),aR (aR (aR ((aR (aR (ph p f+f.width)-1)).tdiv 8)-aR ((ph p f).tdiv 8))+1),1,true,(ph p f).tmod 8,f.width⟩]}
def jV(packed:Bool)(f:aP)(align:Int):Int:=if packed=true∨(f.bits=true∧f.width=0)then 1 else if f.bits=true then f.type.size else align
def PQ(p:PL)(f:aP)(size align:Int):PL:={p with bit:=aR (8*aR (dX (aR ((dX p.bit 8).tdiv 8)) align+size)),gS:=p.gS++[⟨dX (aR ((dX p.bit 8).tdiv 8)) align,size,f.type.kind,false,0,0⟩]}
def xp(p:PL):PL:={p with size:=max p.size (aR ((dX p.bit 8).tdiv 8))}
def o_(packed:Bool)(kind:Int)(p:PL)(f:aP)(g:Int×Int):PL:=
 let p1:PL:={p with align:=max p.align (jV packed f g.2),bit:=if kind=4 then 0 else p.bit}
 xp (if f.bits=true then xi p1 f else PQ p1 f g.1 (jV packed f g.2))
mutual
def bh:aE→(Int×Int)×Bool
 | .mk kind size packed fields count elem=>
  if kind=1∨kind=2 then((size,size),true)
  else if kind=5 then((aR ((ue elem).1.1*count),(ue elem).1.2),(ue elem).2&&decide (aR ((ue elem).1.1*count)≤65536))
  else match gY packed kind ⟨0,1,[],0⟩ fields with
   |none=>((0,0),false)
   |some p=>((dX p.size p.align,p.align),decide (dX p.size p.align≤65536))
def ue:List aE→(Int×Int)×Bool
 |[]=>((0,0),false)
 |t::_=>bh t
def Y1:aP→(Int×Int)×Bool
 | .mk name type bits width=>bh type
def gY(packed:Bool)(kind:Int)(p:PL):List aP→Option PL
 |[]=>some p
 |f::r=>if(Y1 f).2=true then gY packed kind (o_ packed kind p f (Y1 f).1) r else none
end
theorem EL(f:aP):Y1 f=bh f.type:=by cases f;rfl
theorem vr(t:aE):bh t=if t.kind=1∨t.kind=2 then((t.size,t.size),true)
  else if t.kind=5 then((aR ((ue t.elem).1.1*t.count),(ue t.elem).1.2),(ue t.elem).2&&decide (aR ((ue t.elem).1.1*t.count)≤65536))
  else match gY t.packed t.kind ⟨0,1,[],0⟩ t.fields with
   |none=>((0,0),false)
   |some p=>((dX p.size p.align,p.align),decide (dX p.size p.align≤65536)):=by cases t;rfl
theorem pI.aor{H0 H:AH}{sz bytes len m:Nat}{x y:AV}{cells news:List AV}{K:ae}(h:pI H0 H sz x len cells)(hy:mM H sz y=some (m,news))(hn:news.length=m*sz)(hs:news.all AV.scalar=true)(hm:m≠0)
  (hb:(len+m)*bytes≤140737488355328) (hl:len+m≤9223372036854775807) (hK:∀x' H',pI H0 H' sz x' (len+m) (cells++news)→(∀i o,At H i o→(∀a b,o ≠ .tok a b)→At H' i o)→K x' H'):aJ (eF H false sz bytes x y) K:=by
 obtain⟨hx,tk,rfl,hc,gD⟩:=h;have hlen:(cells++news).length=(len+m)*sz:=by simp[hc,hn,Nat.add_mul]
 rcases gD with⟨rfl,rfl⟩|⟨t,rfl,h1,h2,h3⟩
 · refine⟨.aq (.own H.n) (0+m) (cells++news),H.push (.tok ((0+m)*sz) sz),?_,hK _ _ ⟨hx.trans (AH.Ext.push _ _),_,rfl,hlen,.inr ⟨H.n,rfl,hx.1,Nat.lt_succ_self _,AH.DQ _ _⟩⟩ fun i o ho _=>ho.push _⟩;simp only[eF,hy,hs,not_true_eq_false,if_false,if_neg hm];rw[if_neg (by simp only[Decidable.not_not];exact⟨hc,hb,hl⟩)]
 · refine ⟨.aq (.own H.n) (len+m) (cells++news),(H.set t .gone).push (.tok ((len+m)*sz) sz),?_,hK _ _ ⟨(hx.set h1 _).trans (AH.Ext.push _ _),_,rfl,hlen,.inr ⟨H.n,rfl,hx.1,Nat.lt_succ_self _,AH.DQ _ _⟩⟩ fun i o ho u0=>?_⟩
   · simp only[eF,hy,hs,not_true_eq_false,if_false,if_neg hm];rw[if_neg (by simp only[Decidable.not_not];exact⟨hc,hb,hl⟩)];simp[h3]
   ·exact(ho.dq (fun e=>by subst e;rw[ho.2]at h3;exact u0 _ _ h3) _).push _
theorem pI.other{H0 H:AH}{sz len:Nat}{x:AV}{cells:List AV}(h:pI H0 H sz x len cells){id:Nat}{cs:List AV}(ha:At H id (.row cs))(gC:H0.n≤id)(y:dc):pI H0 (H.set id y) sz x len cells:=by
 obtain⟨hx,tk,rfl,hc,gD⟩:=h;refine⟨hx.set gC y,tk,rfl,hc,?_⟩;rcases gD with h|⟨t,rfl,h1,h2,h3⟩
 ·exact .inl h
 ·exact .inr ⟨t,rfl,h1,h2,by rw[AH.dq _ _ (fun e=>by subst e;rw[ha.2]at h3;cases h3)];exact h3⟩
theorem pI.push{H0 H:AH}{sz len:Nat}{x:AV}{cells:List AV}(h:pI H0 H sz x len cells)(y:dc):pI H0 (H.push y) sz x len cells:=by
 obtain⟨hx,tk,rfl,hc,gD⟩:=h;refine⟨hx.trans (AH.Ext.push _ _),tk,rfl,hc,?_⟩;rcases gD with h|⟨t,rfl,h1,h2,h3⟩
 ·exact .inl h
 ·exact .inr ⟨t,rfl,h1,Nat.lt_succ_of_lt h2,by rw[AH.aqh _ _ (by omega)];exact h3⟩
def jg(H0 H:AH)(id:Nat)(p:PL):Prop:=∃x,At H id (.row [.int .i64 p.size,.int .i64 p.align,x,.int .i64 p.bit])∧pI H0 H 6 x p.gS.length (p.gS.flatMap ec.cells)∧H0.n≤id
theorem jg.push{H0 H:AH}{id:Nat}{p:PL}(h:jg H0 H id p)(y:dc):jg H0 (H.push y) id p:=by obtain⟨x,h1,h2,h3⟩:=h;exact⟨x,h1.push y,h2.push y,h3⟩
theorem jg.other{H0 H:AH}{id i:Nat}{p:PL}{cs:List AV}(h:jg H0 H id p)(ha:At H i (.row cs))(hi:H0.n≤i)(bU:id≠i)(y:dc):jg H0 (H.set i y) id p:=by obtain⟨x,h1,h2,h3⟩:=h;exact⟨x,h1.dq bU y,h2.other ha hi y,h3⟩
def tc(H H':AH)(id:Nat):Prop:=∀i cs,i≠id→At H i (.row cs)→At H' i (.row cs)
theorem tc.refl(H:AH)(id:Nat):tc H H id:=fun _ _ _ h=>h
theorem tc.trans{H H' eV:AH}{id:Nat}(h:tc H H' id)(k:tc H' eV id):tc H eV id:=fun i cs hi ha=>k i cs hi (h i cs hi ha)
section
variable{H0 H:AH}{id:Nat}{p:PL}{K:AH→Prop}
theorem jg.Qr(h:jg H0 H id p):J H 1 false (.ptr id 0)=some (.int .i64 p.size):=by obtain⟨x,h1,_⟩:=h;rw[h1.load];rfl
theorem jg.VF(h:jg H0 H id p):J H 1 false (.ptr id 1)=some (.int .i64 p.align):=by obtain⟨x,h1,_⟩:=h;rw[h1.load];rfl
theorem jg.Cg(h:jg H0 H id p):J H 1 false (.ptr id 3)=some (.int .i64 p.bit):=by obtain⟨x,h1,_⟩:=h;rw[h1.load];rfl
theorem jg.afR(h:jg H0 H id p)(v:Int)(hK:∀H',jg H0 H' id {p with size:=v}→tc H H' id→K H'):Do (aH H 1 (.ptr id 0) (.int .i64 v)) K:=by obtain⟨x,h1,h2,h3⟩:=h;refine⟨_,by rw[h1.store,if_pos ⟨rfl,rfl,rfl,by simp⟩];rfl,hK _ ⟨x,h1.set _,h2.other h1 h3 _,h3⟩ fun i cs hi ha=>ha.dq hi _⟩
theorem jg.aup(h:jg H0 H id p)(v:Int)(hK:∀H',jg H0 H' id {p with align:=v}→tc H H' id→K H'):Do (aH H 1 (.ptr id 1) (.int .i64 v)) K:=by obtain⟨x,h1,h2,h3⟩:=h;refine⟨_,by rw[h1.store,if_pos ⟨rfl,rfl,rfl,by simp⟩];rfl,hK _ ⟨x,h1.set _,h2.other h1 h3 _,h3⟩ fun i cs hi ha=>ha.dq hi _⟩
theorem jg.IK(h:jg H0 H id p)(v:Int)(hK:∀H',jg H0 H' id {p with bit:=v}→tc H H' id→K H'):Do (aH H 1 (.ptr id 3) (.int .i64 v)) K:=by obtain⟨x,h1,h2,h3⟩:=h;refine⟨_,by rw[h1.store,if_pos ⟨rfl,rfl,rfl,by simp⟩];rfl,hK _ ⟨x,h1.set _,h2.other h1 h3 _,h3⟩ fun i cs hi ha=>ha.dq hi _⟩
theorem jg.app(h:jg H0 H id p)(hl:p.gS.length<1000)(s:ec)(hK:∀H',jg H0 H' id {p with gS:=p.gS++[s]}→tc H H' id→K H') :
  Do (J H 1 false (.ptr id 2)) fun cm=>
  aJ (fb H false 6 1 [.int .i64 0,.int .i64 0,.int .i64 0,.bool false,.int .i64 0,.int .i64 0] [(0,6,.agg s.cells)]) fun cK dW=>
  aJ (eF dW false 6 48 cm cK) fun cO lI=>
  Do (aH lI 1 (.ptr id 2) cO) K:=by
 obtain⟨x,h1,h2,h3⟩:=h;have e1:J H 1 false (.ptr id 2)=some x:=by rw[h1.load];rfl
 have e2:fb H false 6 1 [.int .i64 0,.int .i64 0,.int .i64 0,.bool false,.int .i64 0,.int .i64 0] [(0,6,.agg s.cells)]=some (.aq .full 1 s.cells,H):=rfl;rw[e1,e2];simp only[aa,bw];refine h2.aor (m:=1) (news:=s.cells) rfl rfl rfl (by decide) (by omega) (by omega) fun x' H' zw hk=>?_;have a1:=hk id _ h1 (by intro a b h;cases h);have lQ:x'.scalar=true∧x'.known=true∧x'.cells=[x']:=by obtain⟨_,tk,rfl,_⟩:=zw;exact⟨rfl,rfl,rfl⟩
 refine⟨_,by rw[a1.store,if_pos ⟨lQ.2.1,by rw[lQ.2.2];rfl,by rw[lQ.2.2];simp[lQ.1],by simp⟩,lQ.2.2];rfl,hK _ ⟨x',a1.set _,?_,h3⟩ fun i cs hi ha=>(hk i _ ha (by intro a b h;cases h)).dq hi _⟩;have:=zw.other a1 h3 (.row [.int .i64 p.size,.int .i64 p.align,x',.int .i64 p.bit]);simpa using this
end
end Rb

namespace Rb
open Go
theorem Qx(a b:Int):bJ [.int .i64 0,.int .i64 0] [(0,1,.int .i64 a),(1,1,.int .i64 b)]=some (.agg [.int .i64 a,.int .i64 b]):=rfl
theorem avP(a:Int):bJ [.int .i64 0,.int .i64 0] [(0,1,.int .i64 a)]=some (.agg [.int .i64 a,.int .i64 0]):=rfl
theorem auh(a l k b:Int):bJ [.int .i64 0,.int .i64 0,.int .i64 0,.bool false,.int .i64 0,.int .i64 0] [(0,2,.agg [.int .i64 a,.int .i64 l]),(2,1,.int .i64 k),(3,1,.bool true),(4,1,.int .i64 b)]=some (.agg [.int .i64 a,.int .i64 l,.int .i64 k,.bool true,.int .i64 b,.int .i64 0]):=rfl
theorem aui(a l k b w:Int):bJ [.int .i64 0,.int .i64 0,.int .i64 0,.bool false,.int .i64 0,.int .i64 0] [(0,2,.agg [.int .i64 a,.int .i64 l]),(2,1,.int .i64 k),(3,1,.bool true),(4,1,.int .i64 b),(5,1,.int .i64 w)]=some (.agg [.int .i64 a,.int .i64 l,.int .i64 k,.bool true,.int .i64 b,.int .i64 w]):=rfl
theorem auj(a l k:Int):bJ [.int .i64 0,.int .i64 0,.int .i64 0,.bool false,.int .i64 0,.int .i64 0] [(0,2,.agg [.int .i64 a,.int .i64 l]),(2,1,.int .i64 k)]=some (.agg [.int .i64 a,.int .i64 l,.int .i64 k,.bool false,.int .i64 0,.int .i64 0]):=rfl
theorem ag5(f:aP)(i j:Nat):ab i (.av (f.cells.drop j))=some (.av ((f.cells.drop j).drop i)):=rfl
theorem ab9(f:aP)(i:Nat):ab i (.av f.cells)=some (.av (f.cells.drop i)):=rfl
theorem au7(f:aP)(H:AH):J H 1 false (.av (f.cells.drop 7))=some (.bool f.bits):=by cases f with|mk n t b w=>cases t;rfl
theorem Vu(f:aP)(H:AH):J H 1 false (.av (f.cells.drop 8))=some (.int .i64 f.width):=by cases f with|mk n t b w=>cases t;rfl
theorem aa4(f:aP)(H:AH):J H 1 false (.av ((f.cells.drop 1).drop 1))=some (.int .i64 f.type.size):=by cases f with|mk n t b w=>cases t;rfl
theorem aaK(i o:Nat):bR (.ptr i o)=some (.ptr i o):=rfl
section
variable{Φ:aj}{H0 H:AH}{Q:ae}
theorem amn(hT:Cl Φ S.cH){f:aP}{p:PL}{id:Nat}(hp:jg H0 H id p)(hl:p.gS.length<1000)(hu:aR (8*f.type.size)≠0)(hQ:∀H',jg H0 H' id (xi p f)→tc H H' id→Q (.aM []) H'):S.f126 Φ (.ptr id 0) (.agg f.cells) H Q:=by
 unfold S.f126;simp only[PJ,bw,ab9,ag5,aa4,Vu,m7,cn,aa,aD,aaK,ab,Nat.zero_add];refine aN (fun h=>?_) (fun h=>?_)
 · have hw:f.width=0:=by simpa using h
   simp only[hp.Cg,aa];refine S.D4 hT (Eg hu ?_);refine hp.IK _ fun H1 lN ij=>?_;have e3:=lN.Cg;simp only[e3,aa,wQ _ _ _ (show(8:Int)≠0 by decide),vi _ _ _ (show(8:Int)≠0 by decide),avP,auh];refine lN.app hl ⟨aR ((dX p.bit (aR (8*f.type.size))).tdiv 8),0,1,true,(dX p.bit (aR (8*f.type.size))).tmod 8,0⟩ fun H2 lO eZ=>hQ H2 ?_ (ij.trans eZ);unfold xi;rw[if_pos hw];exact lO
 · have hw:¬f.width=0:=by simpa using h
   simp only[hp.Cg,aa,wQ _ _ _ hu,cp,nM,eK,aD];have k1:∀(b:Int)(H1:AH),b=ph p f→jg H0 H1 id {p with bit:=b}→tc H H1 id→ak (S.Na Φ (.ptr id 0) (.av f.cells) Q) [] H1:=by intro b H1 hb lN ij;have e3:=lN.Cg;simp only[aG,S.Na,aaK,ab,Nat.zero_add,aa,e3,wQ _ _ _ (show(8:Int)≠0 by decide),vi _ _ _ (show(8:Int)≠0 by decide),Vu,cp,nM,Qx,aui];refine lN.app hl ⟨aR (b.tdiv 8),aR (aR (aR ((aR (aR (b+f.width)-1)).tdiv 8)-aR (b.tdiv 8))+1),1,true,b.tmod 8,f.width⟩ fun H2 lO eZ=>?_;have e4:=lO.Cg;simp only[e4,aa,cp];refine lO.IK _ fun H3 hp3 uX=>hQ H3 ?_ ((ij.trans eZ).trans uX);unfold xi;rw[if_neg hw,←hb];exact hp3
   refine aN (fun h=>?_) (fun h=>?_)
   · refine S.D4 hT (Eg hu ?_);refine hp.IK _ fun H1 lN ij=>k1 _ H1 ?_ lN ij;unfold ph;rw[if_pos (by simpa using h)]
   · refine k1 p.bit H ?_ hp (tc.refl _ _);unfold ph;rw[if_neg (by simpa using h)]
theorem ank{t:aE}{f:aP}{align:Int}(hQ:Q (.int .i64 (jV t.packed f align)) H):S.f125 Φ (.agg t.cells) (.agg f.cells) (.int .i64 align) H Q:=by
 have fin:∀v,v=jV t.packed f align→Q (.int .i64 v) H:=fun v h=>by rw[h];exact hQ
 clear hQ;unfold S.f125;simp only[lu,PJ,bw,dt,xq,ab9,au7,Vu,cn,aa,cj,ck,aG,S.M_,aA,aD,ag5,aa4,Bool.false_eq_true,if_false,if_true];unfold jV at fin
 repeat' (refine aN (fun h=>?_) (fun h=>?_))
 all_goals (refine fin _ ?_;simp_all)
end
end Rb

namespace Rb
open Go
def zT(r:(Int×Int)×Bool):AV:= .aM [.agg [.int .i64 r.1.1,.int .i64 r.1.2],.bool r.2]
theorem Ma{packed:Bool}:∀{l:List aP}{seen:List (List UInt8)},kU packed seen l=0→∀f∈l,f.bits=true→f.type.kind=1∧1≤f.type.size∧f.type.size≤8
 |[],_,_,f,hf=>by cases hf
 | g :: r, seen,h,f,hf=>by
  intro hb;have hs:=Bv h f hf;simp only[kU]at h;have h0:mT packed seen g=0:=by
   by_cases hz:mT packed seen g=0
   ·exact hz
   ·rw[if_pos hz]at h;exact absurd h hz
  rw[if_neg (by simpa using h0)]at h;rcases List.mem_cons.1 hf with rfl|hf
  · have hk : f.type.kind=1:=by
      by_cases hk:f.type.kind=1
      ·exact hk
      · exfalso;rw[wY]at h0;split at h0
        ·cases h0
        · split at h0
          ·cases h0
          · split at h0
            ·rename_i hz;exact hz h0
            ·rw[if_pos (.inr ⟨hb,.inl hk⟩)]at h0;cases h0
    refine⟨hk,?_⟩;rw[m9,hk]at hs;split at hs
    ·cases hs
    · simp only[if_true]at hs;split at hs
      · rename_i hp;simp[gJ]at hp;omega
      ·cases hs
  ·exact Ma h f hf hb
theorem SB{t:aE}(h:ed t=0)(hk:t.kind=3∨t.kind=4):kU t.packed [] t.fields=0:=by
 rw[m9]at h;have k1:t.kind≠1:=by omega
 have k2:t.kind≠2:=by omega
 have k5:t.kind≠5:=by omega
 rw[if_neg k1,if_neg k2,if_neg k5]at h;split at h
 ·cases h
 · split at h
   ·cases h
   ·exact h
theorem abi(a b:Int):oY true [.int .i64 a,.int .i64 b]=some (.int .i64 (max a b)):=TX a b
section
variable{Φ:aj}{H:AH}{Q:ae}
def qn:List AV:=[.int .i64 0,.int .i64 0,.aq .nil 0 [],.int .i64 0]
theorem aaf(hT:Cl Φ S.cH){t:aE}(hs:ed t=0)(hk:t.kind=3∨t.kind=4)
  (pW:∀f∈t.fields,cG Φ K.f77 [.agg f.type.cells] (zT (bh f.type))) (eQ:∀f∈t.fields,(bh f.type).2=true→1≤(bh f.type).1.2)
  (avq:gY t.packed t.kind ⟨0,1,[],0⟩ t.fields=none→∀H',AH.Ext H H'→Q (.aM [.agg qn,.bool false]) H')
  (avw:∀p,gY t.packed t.kind ⟨0,1,[],0⟩ t.fields=some p→∀x H',pI H H' 6 x p.gS.length (p.gS.flatMap ec.cells) →
    Q (.aM [.agg [.int .i64 (dX p.size p.align),.int .i64 p.align,x,.int .i64 p.bit],.bool (decide (dX p.size p.align≤65536))]) H'):S.f108 Φ (.agg t.cells) H Q:=by
 obtain⟨mX,hlen⟩:=Ae hs hk;have hfb:=SB hs hk;unfold S.f108;have z6:bJ [.int .i64 0,.int .i64 0,.aq .nil 0 [],.int .i64 0] [(0,2,.agg [.int .i64 0,.int .i64 1])]=some (.agg [.int .i64 0,.int .i64 1,.aq .nil 0 [],.int .i64 0]):=rfl;simp only[lu,bw,be,if_true,Qx,z6,aa];rw[fC _ _ _ 4 rfl rfl rfl];simp only[aa,dt,kV,cu];have a3:At ((H.push (.row qn)).push (.row [.int .i64 0,.int .i64 1,.aq .nil 0 [],.int .i64 0])) H.n (.row qn):=(At.new H _).push _;have p7:jg H ((H.push (.row qn)).push (.row [.int .i64 0,.int .i64 1,.aq .nil 0 [],.int .i64 0])) (H.push (.row qn)).n ⟨0,1,[],0⟩:=⟨_,At.new _ _,((pI.nil H 6).push _).push _,Nat.le_succ _⟩
 have bU:H.n≠(H.push (.row qn)).n:=by simp
 have sA:H.n≤H.n:=Nat.le_refl _;change aB (S.BI Φ (.av t.cells) (.ptr H.n 0) (.ptr (H.push (.row qn)).n 0) (aQ aP.cells t.fields) (.int .i64 t.fields.length) Q) ([.int .i64 0],(H.push (.row qn)).push (.row [.int .i64 0,.int .i64 1,.aq .nil 0 [],.int .i64 0]));generalize ((H.push (.row qn)).push (.row [.int .i64 0,.int .i64 1,.aq .nil 0 [],.int .i64 0]))=H9 at *;generalize (H.push (.row qn)).n=wG at *;have main : ∀(fs:List aP)(i:Nat)(p:PL)(H1:AH),t.fields.drop i=fs→At H1 H.n (.row qn)→jg H H1 wG p→p.gS.length≤i→1≤p.align→gY t.packed t.kind p fs=gY t.packed t.kind ⟨0,1,[],0⟩ t.fields →
   aB (S.BI Φ (.av t.cells) (.ptr H.n 0) (.ptr wG 0) (aQ aP.cells t.fields) (.int .i64 t.fields.length) Q) ([.int .i64 i],H1):=by
  intro fs;induction fs with
  | nil=>
   intro i p H1 hd b3 b7 wB hpa kW;have hle:=fe hd;simp only[gY]at kW;refine aB.step ?_;simp only[S.BI,aA,bF,aa,aD];rw[if_neg (by simp only[decide_eq_true_eq];omega)];simp only[aG,S.abT,ab,Nat.zero_add,aa,b7.Qr,b7.VF];refine S.D4 hT (Eg (by omega) ?_);refine b7.afR _ fun H2 c7 hk=>?_;have c3:=hk H.n _ bU b3;obtain⟨x,d1,d2,d3⟩:=c7;have hx:x.scalar=true:=by obtain⟨_,tk,rfl,_⟩:=d2;rfl
   rw[d1.all (n:=4) rfl];simp only[aa];have l0:J H2 1 false (.ptr wG 0)=some (.int .i64 (dX p.size p.align)):=by rw[d1.load];rfl
   rw[l0];simp only[aa,mL];rw[c3.put (n:=4) rfl rfl (by simp only[List.all_cons,hx];rfl)];simp only[aa];refine⟨by rw[(d1.dq (fun e=>bU e.symm) _).load];rfl,?_⟩;rw[(c3.set _).all (n:=4) rfl];simp only[aa];exact avw p kW.symm x _ (d2.other c3 sA _)
  | cons f fs ih=>
   intro i p H1 hd b3 b7 wB hpa kW;obtain⟨aO,hf,bC⟩:=eX hd;have gI:=List.mem_of_getElem? hf;simp only[gY,EL]at kW;refine aB.step ?_;simp only[S.BI,aA,bF,aa,aD];rw[if_pos (by simp only[decide_eq_true_eq];omega),d_ aO];simp only[aa];rw[gO aP.len (by decide) _ hf];simp only[aa,bw,be,if_true];rw[fC _ _ _ 9 f.len f.scalar rfl];simp only[aa,ab,Nat.zero_add];rw[jQ,Qk];simp only[aa];have n7:wG≠H1.n:=by obtain⟨x,d1,_⟩:=b7;exact d1.qR
   have c22:=At.new H1 (.row f.cells);have c3:=b3.push (.row f.cells);have c7:=b7.push (.row f.cells);generalize H1.push (.row f.cells)=H2 at *;generalize H1.n=FL at *;refine pW f gI _ _ ?_;simp only[zT,db,List.getElem?_cons_zero,List.getElem?_cons_succ,aa,bw];rw[fC _ _ _ 2 rfl rfl rfl];simp only[aa,gk,aD];have YV:wG≠H2.n:=by obtain⟨x,d1,_⟩:=c7;exact d1.qR
   have d31:=At.new H2 (.row [.int .i64 (bh f.type).1.1,.int .i64 (bh f.type).1.2]);have d22:=c22.push (.row [.int .i64 (bh f.type).1.1,.int .i64 (bh f.type).1.2]);have d3:=c3.push (.row [.int .i64 (bh f.type).1.1,.int .i64 (bh f.type).1.2]);have d7:=c7.push (.row [.int .i64 (bh f.type).1.1,.int .i64 (bh f.type).1.2]);generalize H2.push (.row [.int .i64 (bh f.type).1.1,.int .i64 (bh f.type).1.2])=H3 at *;generalize H2.n=AK at *;refine aN (fun h=>?_) (fun h=>?_)
   · have u0:(bh f.type).2=false:=by simpa using h
     rw[if_neg (by simp[u0])]at kW;have zb:bJ [.int .i64 0,.int .i64 0,.aq .nil 0 [],.int .i64 0] []=some (.agg qn):=rfl;rw[zb];simp only[aa];rw[d3.put (n:=4) rfl rfl rfl];simp only[aa];rw[(d3.set _).all (n:=4) rfl];simp only[aa];obtain⟨xx,_,⟨hx,_⟩,_⟩:=d7;exact avq kW.symm _ (hx.set sA _)
   · have ahn:(bh f.type).2=true:=by simpa using h
     rw[if_pos ahn]at kW;have nZ:=eQ f gI ahn;have axT:J H3 1 false (.ptr AK 1)=some (.int .i64 (bh f.type).1.2):=by rw[d31.load];rfl
     simp only[qT,d22.all f.len,axT,aa];have ago:1≤jV t.packed f (bh f.type).1.2:=by
      unfold jV;split
      ·omega
      · split
        ·rename_i hb;exact(Ma hfb f gI hb).2.1
        ·exact nZ
     refine S.aoT hT (ank ?_);simp only[d7.VF,aa,abi];refine d7.aup _ fun H4 e7 A8=>?_;have e3:=A8 H.n _ bU d3;have e22:=A8 FL _ (fun e=>n7 e.symm) d22;have e31:=A8 AK _ (fun e=>YV e.symm) d31;clear A8 d7 d3 d22 d31;have k3:∀(b:Int)(H5:AH),b=(if t.kind=4 then 0 else p.bit)→jg H H5 wG {p with align:=max p.align (jV t.packed f (bh f.type).1.2),bit:=b}→At H5 H.n (.row qn)→At H5 FL (.row f.cells)→At H5 AK (.row [.int .i64 (bh f.type).1.1,.int .i64 (bh f.type).1.2]) →
       S.MT Φ (.ptr wG 0) (.ptr FL 0) (.ptr AK 0) (.int .i64 (jV t.packed f (bh f.type).1.2)) ([.int .i64 i],H1) (aB (S.BI Φ (.av t.cells) (.ptr H.n 0) (.ptr wG 0) (aQ aP.cells t.fields) (.int .i64 t.fields.length) Q)) Q [] H5:=by
      intro b H5 hb g7 g3 g22 g31;have k2:∀(p2:PL)(H6:AH),xp p2=o_ t.packed t.kind p f (bh f.type).1→jg H H6 wG p2→At H6 H.n (.row qn)→p2.gS.length≤i+1→1≤p2.align →
        S.MS Φ (.ptr wG 0) ([.int .i64 i],H1) (aB (S.BI Φ (.av t.cells) (.ptr H.n 0) (.ptr wG 0) (aQ aP.cells t.fields) (.int .i64 t.fields.length) Q)) Q [] H6:=by
       intro p2 H6 lO q7 q3 axl axd;simp only[S.MS,ab,Nat.zero_add,aa,q7.Qr,q7.Cg];refine S.D4 hT (Eg (by decide) ?_);refine⟨q7.Qr,?_⟩;simp only[wQ _ _ _ (show(8:Int)≠0 by decide),aa,abi];refine q7.afR _ fun H7 r7 Yj=>?_;simp only[aG,S.abS,aA,cp,aa];rw[wrap_i64 (by omega) (by omega),show((i:Int)+1)=((i+1:Nat):Int) by simp];refine ih (i+1) (xp p2) H7 bC (Yj H.n _ bU q3) r7 axl axd ?_;rw[lO];exact kW
      have ahd:1≤max p.align (jV t.packed f (bh f.type).1.2):=by omega
      have l7:J H5 1 false (.ptr FL 7)=some (.bool f.bits):=by rw[g22.load,Vv]
      simp only[S.MT,ab,Nat.zero_add,aa,l7,aD];refine aN (fun du=>?_) (fun du=>?_)
      · obtain ⟨ij,tZ,Bf⟩:=Ma hfb f gI du;have hu:aR (8*f.type.size)≠0:=by
         show IntKind.wrap .i64 (8*f.type.size)≠0;rw[wrap_i64 (by omega) (by omega)];omega
        rw[g22.all f.len];simp only[aa];refine S.aoU hT (amn hT g7 (by show p.gS.length<1000;omega) hu fun H6 q7 Rt=>?_);simp only[aG];refine k2 _ H6 ?_ q7 (Rt H.n _ bU g3) ?_ ?_
        · unfold o_;simp only[du,if_true,hb]
        · unfold xi;split<;>(simp only[List.length_append,List.length_cons,List.length_nil];omega)
        · unfold xi;split<;>exact ahd
      · simp only[Bool.not_eq_true]at du;have ls:J H5 1 false (.ptr AK 0)=some (.int .i64 (bh f.type).1.1):=by rw[g31.load];rfl
        have lk:J H5 1 false (.ptr FL 1)=some (.int .i64 f.type.kind):=by rw[g22.load,Wb]
        simp only[g7.Cg,aa];refine S.D4 hT (Eg (by decide) ?_);simp only[wQ _ _ _ (show(8:Int)≠0 by decide),aa];refine S.D4 hT (Eg (by omega) ?_);simp only[ls,lk,aa,Qx,auj];refine g7.app (by show p.gS.length<1000;omega) ⟨dX (aR ((dX b 8).tdiv 8)) (jV t.packed f (bh f.type).1.2),(bh f.type).1.1,f.type.kind,false,0,0⟩ fun H6 q7 Rt=>?_;have q31:=Rt AK _ (fun e=>YV e.symm) g31;have ls2:J H6 1 false (.ptr AK 0)=some (.int .i64 (bh f.type).1.1):=by rw[q31.load];rfl
        simp only[ls2,aa,cp,m7];refine q7.IK _ fun H7 r7 Yj=>?_;simp only[aG];refine k2 _ H7 ?_ r7 (Yj H.n _ bU (Rt H.n _ bU g3)) ?_ ahd
        · unfold o_;simp only[du,Bool.false_eq_true,if_false,hb];rfl
        · show(p.gS++[_]).length≤i+1;simp only[List.length_append,List.length_cons,List.length_nil];omega
     simp only[dt,qm,cn,aa,aD,aG];refine aN (fun h4=>?_) (fun h4=>?_)
     · refine e7.IK _ fun H5 g7 tW=>k3 _ H5 ?_ g7 (tW H.n _ bU e3) (tW FL _ (fun e=>n7 e.symm) e22) (tW AK _ (fun e=>YV e.symm) e31);rw[if_pos (by simpa using h4)]
     · refine k3 p.bit H4 ?_ e7 e3 e22 e31;rw[if_neg (by simpa using h4)]
 exact main t.fields 0 _ H9 rfl a3 p7 (Nat.le_refl _) (by decide) rfl
end
end Rb

namespace Rb
open Go
theorem DY{t:aE}(h:ed t=0):t.kind=1∨t.kind=2∨t.kind=5∨t.kind=3∨t.kind=4:=by
 rw[m9]at h;split at h
 ·cases h
 · rename_i ho;simp only[Bool.not_eq_false]at ho;unfold lz at ho;by_cases h1:t.kind=1
   ·exact .inl h1
   by_cases h2:t.kind=2
   ·exact .inr (.inl h2)
   by_cases h3:t.kind=3
   ·exact .inr (.inr (.inr (.inl h3)))
   by_cases h4:t.kind=4
   ·exact .inr (.inr (.inr (.inr h4)))
   by_cases h5:t.kind=5
   ·exact .inr (.inr (.inl h5))
   simp[h1,h2,h3,h4,h5]at ho
section
variable{Φ:aj}{H:AH}{Q:ae}
theorem VP:bJ [.int .i64 0,.int .i64 0] []=some (.agg [.int .i64 0,.int .i64 0]):=rfl
theorem aqc(hT:Cl Φ S.cH){t:aE}(hs:ed t=0)
  (pW:∀f∈t.fields,cG Φ K.f77 [.agg f.type.cells] (zT (bh f.type))) (eQ:∀f∈t.fields,(bh f.type).2=true→1≤(bh f.type).1.2)
  (Gu:∀e∈t.elem,cG Φ K.f77 [.agg e.cells] (zT (bh e))) (hQ:∀H',Q (zT (bh t)) H'):S.f77 Φ (.agg t.cells) H Q:=by
 have fin:∀r,r=bh t→∀H',Q (zT r) H':=fun r h=>by rw[h];exact hQ
 clear hQ;rw[vr]at fin;unfold S.f77;simp only[lu,bw,be,if_true,dt,qm,cn,aa,aD];have a3:=At.new H (.row [.int .i64 0,.int .i64 0]);generalize H.push (.row [.int .i64 0,.int .i64 0])=H4 at *;generalize H.n=dK at *;have k2 : ∀b:Bool,(b=true↔(t.kind=1∨t.kind=2))→ak (S.Px Φ (.av t.cells) (.ptr dK 0) (.int .i64 t.kind) Q) [.bool b] H4:=by
  intro b hb;simp only[aG,S.Px,aA,aD];refine aN (fun h=>?_) (fun h=>?_)
  · have ju:=hb.1 h;rw[if_pos ju]at fin;simp only[dt,vy,aa,Qx];rw[a3.put (n:=2) rfl rfl rfl];simp only[aa];rw[(a3.set _).all (n:=2) rfl];simp only[aa];exact fin _ rfl _
  · have ju:¬(t.kind=1∨t.kind=2):=fun y=>h (hb.2 y);rw[if_neg ju]at fin;simp only[cn,aa,aD];refine aN (fun h=>?_) (fun h=>?_)
    · have h5:t.kind=5:=by simpa using h
      rw[if_pos h5]at fin;obtain⟨e,he,_⟩:=wZ hs h5;simp only[dt,nt,aa];have ha:bj none 6 (aQ aE.cells t.elem) (.int .i64 0)=some (iB aE.cells 6 t.elem 0):=d_ (by rw[he];simp);rw[ha];simp only[aa];rw[gO aE.len (by decide) _ (show t.elem[0]?=some e by rw[he];rfl)];simp only[aa];refine Gu e (by rw[he];simp) _ _ ?_;rw[he]at fin;simp only[ue]at fin;simp only[zT,db,List.getElem?_cons_zero,List.getElem?_cons_succ,aa,bw,be,if_true];rw[fC _ _ _ 2 rfl rfl rfl];simp only[aa,ab,Nat.zero_add,dt,Aw];have Lv:dK≠H4.n:=a3.qR;have wg:=At.new H4 (.row [.int .i64 (bh e).1.1,.int .i64 (bh e).1.2]);have b3:=a3.push (.row [.int .i64 (bh e).1.1,.int .i64 (bh e).1.2]);generalize H4.push (.row [.int .i64 (bh e).1.1,.int .i64 (bh e).1.2])=H5 at *;generalize H4.n=jn at *;have l1:J H5 1 false (.ptr jn 0)=some (.int .i64 (bh e).1.1):=by rw[wg.load];rfl
      simp only[l1,aa,m7];have s1:aH H5 1 (.ptr jn 0) (.int .i64 (aR ((bh e).1.1*t.count)))=some (H5.set jn (.row [.int .i64 (aR ((bh e).1.1*t.count)),.int .i64 (bh e).1.2])):=by rw[wg.store,if_pos ⟨rfl,rfl,rfl,by simp⟩];rfl
      rw[s1];simp only[aa];have Db:=wg.set (.row [.int .i64 (aR ((bh e).1.1*t.count)),.int .i64 (bh e).1.2]);have c3:=b3.dq Lv (.row [.int .i64 (aR ((bh e).1.1*t.count)),.int .i64 (bh e).1.2]);generalize H5.set jn (.row [.int .i64 (aR ((bh e).1.1*t.count)),.int .i64 (bh e).1.2])=H6 at *;rw[Db.all (n:=2) rfl];have l2:J H6 1 false (.ptr jn 0)=some (.int .i64 (aR ((bh e).1.1*t.count))):=by rw[Db.load];rfl
      simp only[aa,ck];refine aN (fun h=>?_) (fun h=>?_)
      · simp only[l2,aa,mL];rw[c3.put (n:=2) rfl rfl rfl];simp only[aa];refine⟨fun _=>?_,?_⟩
        ·rw[(Db.dq Lv.symm _).load];rfl
        · rw[(c3.set _).all (n:=2) rfl];simp only[aa];exact fin ((aR ((bh e).1.1*t.count),(bh e).1.2),decide (aR ((bh e).1.1*t.count)≤65536)) (by rw[h,Bool.true_and];rfl) _
      · simp only[Bool.not_eq_true]at h;rw[c3.put (n:=2) rfl rfl rfl];simp only[aa];refine And.intro (fun y=>nomatch y) ?_;rw[(c3.set _).all (n:=2) rfl];simp only[aa];exact fin ((aR ((bh e).1.1*t.count),(bh e).1.2),false) (by rw[h,Bool.false_and]) _
    · have h5:¬t.kind=5:=by simpa using h
      rw[if_neg h5]at fin;have hk:t.kind=3∨t.kind=4:=by
       rcases DY hs with h|h|h|h
       ·exact absurd (.inl h) ju
       ·exact absurd (.inr h) ju
       ·exact absurd h h5
       ·exact h
      simp only[aG,S.ad8,qT,aa];refine S.abJ hT (aaf hT hs hk pW eQ ?_ ?_)
      · intro hn H' hx;rw[hn]at fin;simp only[db,List.getElem?_cons_zero,List.getElem?_cons_succ,aa,bw,be,if_true];rw[fC _ _ _ 4 rfl rfl rfl];simp only[aa,ab,Nat.zero_add];rw[jQ];have tk:cC qn 0 2 true=some (.agg [.int .i64 0,.int .i64 0]):=rfl;rw[tk];simp only[aa];have e3:=(a3.ext hx).push (.row qn);rw[e3.put (n:=2) rfl rfl rfl];simp only[aa];rw[(e3.set _).all (n:=2) rfl];simp only[aa];exact fin ((0,0),false) rfl _
      · intro p hp x H' hL;rw[hp]at fin;have hx:=hL.1;have lQ:x.scalar=true:=by obtain⟨_,tk,rfl,_⟩:=hL;rfl
        simp only[db,List.getElem?_cons_zero,List.getElem?_cons_succ,aa,bw,be,if_true];rw[fC _ _ _ 4 rfl (by simp only[List.all_cons,lQ];rfl) rfl];simp only[aa,ab,Nat.zero_add];rw[jQ];have tk:cC [.int .i64 (dX p.size p.align),.int .i64 p.align,x,.int .i64 p.bit] 0 2 true=some (.agg [.int .i64 (dX p.size p.align),.int .i64 p.align]):=rfl;rw[tk];simp only[aa];have e3:=(a3.ext hx).push (.row [.int .i64 (dX p.size p.align),.int .i64 p.align,x,.int .i64 p.bit]);rw[e3.put (n:=2) rfl rfl rfl];simp only[aa];rw[(e3.set _).all (n:=2) rfl];simp only[aa];exact fin ((dX p.size p.align,p.align),decide (dX p.size p.align≤65536)) rfl _
 refine aN (fun h=>?_) (fun h=>?_)
 ·exact k2 _ ⟨fun _=> .inl (by simpa using h),fun _=>h⟩
 · refine k2 _ ⟨fun h2=> .inr (by simpa using h2),fun h2=>?_⟩;rcases h2 with h2|h2
   ·exact absurd (by simpa using h2) h
   ·simpa using h2
end
end Rb

namespace Rb
open Go
theorem aku(packed:Bool)(kind:Int)(p:PL)(f:aP)(g:Int×Int):p.align≤(o_ packed kind p f g).align:=by
 have h:(o_ packed kind p f g).align=max p.align (jV packed f g.2):=by
  unfold o_;simp only;split
  · unfold xp xi;split<;>rfl
  ·rfl
 rw[h];omega
theorem Zx{packed:Bool}{kind:Int}:∀{l:List aP}{p q:PL},gY packed kind p l=some q→p.align≤q.align
 |[],p,q,h=>by simp only[gY,Option.some.injEq]at h;rw[h];exact Int.le_refl _
 | f::r,p,q,h=>by
  simp only[gY]at h;split at h
  ·exact Int.le_trans (aku packed kind p f _) (Zx h)
  ·cases h
theorem SU:∀t:aE,ed t=0→(bh t).2=true→1≤(bh t).1.2:=by
 refine aE.ind fun t mH k_ hs h=>?_;rw[vr]at h ⊢;split at h
 · rename_i ju;rw[if_pos ju];rw[m9]at hs;split at hs
   ·cases hs
   · have hp:gJ t.size 8=true∨gJ t.size 16=true:=by
       rcases ju with h1|h1
       · rw[if_pos h1]at hs;split at hs
         ·exact .inl ‹_›
         ·cases hs
       · rw[if_neg (by omega),if_pos h1]at hs;split at hs
         ·exact .inr ‹_›
         ·cases hs
     show 1≤t.size;rcases hp with hp|hp<;>(simp[gJ]at hp;omega)
 · rename_i ju;rw[if_neg ju];split at h
   · rename_i h5;rw[if_pos h5];obtain⟨e,he,Bb⟩:=wZ hs h5;rw[he]at h ⊢;simp only[ue,Bool.and_eq_true]at h ⊢;exact k_ e (by rw[he];simp) Bb h.1
   · rename_i h5;rw[if_neg h5];cases hp:gY t.packed t.kind ⟨0,1,[],0⟩ t.fields with
     |none=>rw[hp]at h;cases h
     |some p=>exact Zx hp
section
variable{C:Ctx}(aw:dz C)(hT:Cl (au C) S.cH)
include aw hT
theorem afJ:∀t:aE,ed t=0→cG (au C) K.f77 [.agg t.cells] (zT (bh t)):=by
 refine aE.ind fun t mH k_ hs=>?_;refine cG.of aw (by simp[AV.dD,AV.cD,aE.cD]) rfl fun Q hQ=>S.arA hT ?_;have ho:lz t.kind t.size t.packed t.fields.length t.count t.elem.length=true:=by
  rw[m9]at hs;split at hs
  ·cases hs
  ·rename_i h;simpa using h
 unfold lz at ho;have mX:∀f∈t.fields,ed f.type=0:=by
  intro f hf;rcases DY hs with h|h|h|h
  · simp only[h,true_or,if_true,Bool.and_eq_true,beq_iff_eq,List.length_eq_zero_iff]at ho;rw[ho.1.1.2]at hf;cases hf
  · simp only[h,or_true,if_true,Bool.and_eq_true,beq_iff_eq,List.length_eq_zero_iff]at ho;rw[ho.1.1.2]at hf;cases hf
  · rw[if_neg (by omega),if_neg (by omega),if_pos h]at ho;simp only[Bool.and_eq_true,beq_iff_eq,List.length_eq_zero_iff]at ho;rw[ho.1.2]at hf;cases hf
  ·exact(Ae hs h).1 f hf
 have pQ:∀e∈t.elem,ed e=0:=by
  intro e he;rcases DY hs with h|h|h|h
  · simp only[h,true_or,if_true,Bool.and_eq_true,beq_iff_eq,List.length_eq_zero_iff]at ho;rw[ho.2]at he;cases he
  · simp only[h,or_true,if_true,Bool.and_eq_true,beq_iff_eq,List.length_eq_zero_iff]at ho;rw[ho.2]at he;cases he
  · obtain⟨e',fj,yk⟩:=wZ hs h;rw[fj]at he;rcases List.mem_cons.1 he with rfl|he
    ·exact yk
    ·cases he
  · rw[if_neg (by omega),if_pos h]at ho;simp only[Bool.and_eq_true,beq_iff_eq,List.length_eq_zero_iff]at ho;rw[ho.2]at he;cases he
 exact aqc hT hs (fun f hf=>mH f hf (mX f hf)) (fun f hf=>SU f.type (mX f hf)) (fun e he=>k_ e he (pQ e he)) hQ
end
end Rb

namespace Rb
open Go
def cd(t:aE):(Int×Int)×Int:=if iI t≠0 then((0,0),iI t)else if jl t=true then((0,0),10)else if(bh t).2=false then((0,0),9)else((bh t).1,0)
theorem sW{t:aE}(h:iI t=0):ed t=0:=by
 unfold iI at h;split at h
 ·cases h
 ·exact h
section
variable{C:Ctx}(aw:dz C)(hT:Cl (au C) S.cH)
include aw hT
theorem Zf(t:aE)(ht:t.ok){H:AH}{Q:ae}(hQ:∀H',Q (.aM [.agg [.int .i64 (cd t).1.1,.int .i64 (cd t).1.2],.int .i64 (cd t).2]) H'):S.f46 (au C) (.agg t.cells) H Q:=by
 have fin:∀r,r=cd t→∀H',Q (.aM [.agg [.int .i64 r.1.1,.int .i64 r.1.2],.int .i64 r.2]) H':=fun r h=>by rw[h];exact hQ
 clear hQ;unfold cd at fin;unfold S.f46;simp only[lu,bw,be,if_true,qT,aa];have a3:=At.new H (.row [.int .i64 0,.int .i64 0]);generalize H.push (.row [.int .i64 0,.int .i64 0])=H4 at *;generalize H.n=dK at *;refine Zq aw hT t ht _ _ ?_;simp only[eK,aa,aD];refine aN (fun h=>?_) (fun h=>?_)
 · have hs:iI t≠0:=by simpa using h
   rw[if_pos hs]at fin;simp only[VP,aa];rw[a3.put (n:=2) rfl rfl rfl];simp only[aa];rw[(a3.set _).all (n:=2) rfl];simp only[aa];exact fin _ rfl _
 · have hs:iI t=0:=by simpa using h
   rw[if_neg (by simpa using hs)]at fin;refine aoj hT t ht _ _ ?_;simp only[aD];refine aN (fun h=>?_) (fun h=>?_)
   · rw[if_pos h]at fin;simp only[VP,aa];rw[a3.put (n:=2) rfl rfl rfl];simp only[aa];rw[(a3.set _).all (n:=2) rfl];simp only[aa];exact fin _ rfl _
   · rw [if_neg h]at fin;refine afJ aw hT t (sW hs) _ _ ?_;simp only[zT,db,List.getElem?_cons_zero,List.getElem?_cons_succ,aa,bw,be,if_true];rw[fC _ _ _ 2 rfl rfl rfl];simp only[aa,gk,aD];have b23:=At.new H4 (.row [.int .i64 (bh t).1.1,.int .i64 (bh t).1.2]);have b3:=a3.push (.row [.int .i64 (bh t).1.1,.int .i64 (bh t).1.2]);generalize H4.push (.row [.int .i64 (bh t).1.1,.int .i64 (bh t).1.2])=H5 at *;generalize H4.n=aCV at *;refine aN (fun h=>?_) (fun h=>?_)
     · rw[if_pos (by simpa using h)]at fin;simp only[VP,aa];rw[b3.put (n:=2) rfl rfl rfl];simp only[aa];rw[(b3.set _).all (n:=2) rfl];simp only[aa];exact fin _ rfl _
     · rw[if_neg (by simpa using h)]at fin;rw[b23.all (n:=2) rfl];simp only[aa];rw[b3.put (n:=2) rfl rfl rfl];simp only[aa];rw[(b3.set _).all (n:=2) rfl];simp only[aa];exact fin _ rfl _
theorem R8(t:aE)(ht:t.ok):cG (au C) K.f29 [.agg t.cells] (.aM [.int .i64 (cd t).1.1,.int .i64 (cd t).1.2,.int .i64 (cd t).2]):=by refine cG.of aw (by simp[AV.dD,AV.cD,aE.cD]) rfl fun Q hQ=>S.aqO hT ?_;unfold S.f29;simp only[lu,bw,qT,aa];refine S.adv hT (Zf aw hT t ht fun H'=>?_);simp only[db,List.getElem?_cons_zero,List.getElem?_cons_succ,aa,bw,be,if_true];rw[fC _ _ _ 2 rfl rfl rfl];simp only[aa,ab,Nat.zero_add,jQ];exact⟨_,rfl,_,rfl,hQ _⟩
end
end Rb

namespace Rb
open Go
structure aS where
 locals:List (List UInt8)
 lets:Int
 line:Int
 nN:Int
 aV:Int
def aS.cZ(s:aS)(ok:Bool)(e:Int):aS:=if ok=false∧s.aV=0 then {s with nN:=s.line,aV:=e} else s
def aS.back(s:aS)(n:Nat):aS:={s with locals:=s.locals.take n}
def aS.at(s:aS)(l:Int):aS:={s with line:=l}
def aS.xk(s:aS)(x:List UInt8):aS:={s with locals:=s.locals++[x],lets:=aR (s.lets+1)}
def aS.has(s:aS)(x:List UInt8):Bool:=s.locals.any fun y=>x==y
def kP(k o:Int):Bool:=
 if k=4∨k=6 then o==1||o==3||o==4
 else if k=5∨k=15 then o==1||o==2||o==4
 else if k=16∨k=17∨k=18 then decide (1≤o)&&decide (o≤4)
 else if k=7 then decide (2≤o)&&decide (o≤4)
 else o==0
def jS(x:aT):Bool:=x.var==[]&&x.parts.length==0
def iO(k:Int):Bool×Bool×Bool×Int×Bool×Bool:=
 if k=1∨k=2 then(true,false,false,1,false,false)
 else if k=3∨k=4 then(false,false,true,1,false,false)
 else if k=5 then(true,true,true,0,false,false)
 else if k=6 then(false,false,true,2,false,false)
 else if k=7 then(false,false,false,0,false,false)
 else if k=8 then(false,false,false,1,true,true)
 else if k=9 then(false,false,false,1,true,false)
 else(false,false,false,1,false,false)
def ly(x:aC):Bool:=decide (1≤x.kind)&&decide (x.kind≤10)&&((iO x.kind).1||x.name==[])&&((iO x.kind).2.1||x.cW==[])&&((iO x.kind).2.2.1||jS x.place)&&((x.exprs.length:Int)==(iO x.kind).2.2.2.1)&&((iO x.kind).2.2.2.2.1||x.aZ.length==0)&&((iO x.kind).2.2.2.2.2||x.bz.length==0)
def ni(k:Int):Int×Bool:=if k=3 then(2,false)else if k=4∨k=5 then(0,true)else if k=6∨k=7 then(1,true)else if k=8 then(2,true)else(0,false)
def kM(e:aF):Bool:=decide (1≤e.kind)&&decide (e.kind≤8)&&(e.kind==1||e.n==0)&&(e.kind==2||e.name==[])&&(if e.kind=3 then decide (1≤e.op)&&decide (e.op≤11)else e.op==0)&&((ni e.kind).2||jS e.place)&&((e.kids.length:Int)==(ni e.kind).1)
def mO(k:Int)(t:aE):Bool:=if k=3∨k=14 then t.kind==1 else if k=5∨k=6 then t.kind==2&&t.size==16 else t.kind==2&&decide (t.size≤8)
section
variable(vars:List aK)
def qS(s:aS)(k:Int)(x:aT):aS:=
 let s1:=s.cZ ((dm vars x).1==0) (dm vars x).1
 s1.cZ (s1.aV != 0||mO k (dm vars x).2) 8
def f_(s:aS)(d:Int)(e:aF):aS:=((s.cZ (decide (d≤64)) 5).cZ (kM e) 4).cZ (kP (aR (10+e.kind)) e.order) 11
mutual
def qD(s:aS)(d:Int):aF→aS
 | .mk kind n name op order place kids=>
  if(f_ s d (.mk kind n name op order place kids)).aV≠0 then f_ s d (.mk kind n name op order place kids)
  else eH (if kind≥4 then mI (if kind=2 then(f_ s d (.mk kind n name op order place kids)).cZ ((f_ s d (.mk kind n name op order place kids)).has name) 6 else f_ s d (.mk kind n name op order place kids)) (aR (10+kind)) d place
    else(if kind=2 then(f_ s d (.mk kind n name op order place kids)).cZ ((f_ s d (.mk kind n name op order place kids)).has name) 6 else f_ s d (.mk kind n name op order place kids))) d kids
def eH(s:aS)(d:Int):List aF→aS
 |[]=>s
 |e::r=>eH (if s.aV≠0 then s else qD s (aR (d+1)) e) d r
def mI(s:aS)(k:Int)(d:Int):aT→aS
 | .mk var parts=>if s.aV≠0 then s else iZ (qS vars s k (.mk var parts)) d parts
def iZ(s:aS)(d:Int):List a_→aS
 |[]=>s
 |p::r=>iZ (uf s d p) d r
def uf(s:aS)(d:Int):a_→aS
 | .mk field index=>kK s d index
def kK(s:aS)(d:Int):List aF→aS
 |[]=>s
 |e::r=>kK (qD s (aR (d+1)) e) d r
end
variable(kw:List UInt8→Bool)
def ib(s:aS)(d:Int)(x:aC):aS:=((s.cZ (decide (d≤64)) 5).cZ (ly x) 4).cZ (kP x.kind x.order) 11
def gz(s:aS)(d:Int)(x:aC):aS:=
 if x.kind=1 then((s.cZ (gH x.name&&!kw x.name) 6).cZ (!s.has x.name) 7).cZ (decide (s.lets<40)) 12
 else if x.kind=2 then s.cZ (s.has x.name) 6
 else if x.kind=3∨x.kind=4∨x.kind=5∨x.kind=6 then mI vars s x.kind d x.place
 else s
def lA(s:aS)(x:aC):aS:=
 if x.kind=1 then s.xk x.name
 else if x.kind=5 then((s.cZ (s.has x.name) 6).cZ (s.has x.cW) 6).cZ (!(x.name==x.cW)) 7
 else s
def fm(s:aS)(d:Int)(x:aC):aS:=lA (eH vars (gz vars kw (ib s d x) d x) d x.exprs) x
mutual
def stM(s:aS)(d:Int):aC→aS
 | .mk kind line name cW order place exprs aZ bz=>
  iJ ((iJ (fm vars kw s d (.mk kind line name cW order place exprs aZ bz)) (fm vars kw s d (.mk kind line name cW order place exprs aZ bz)).locals.length (aR (d+1)) aZ).at line)
   (((iJ (fm vars kw s d (.mk kind line name cW order place exprs aZ bz)) (fm vars kw s d (.mk kind line name cW order place exprs aZ bz)).locals.length (aR (d+1)) aZ).at line).locals.length) (aR (d+1)) bz
def iJ(s:aS)(n:Nat)(d:Int):List aC→aS
 |[]=>s.back n
 |x::r=>iJ (if s.aV≠0 then s else stM (s.at x.line) d x) n d r
end
def gQ(s:aS)(d:Int)(l:List aC):aS:=iJ vars kw s s.locals.length d l
def xr(seen:List (List UInt8))(at_:Int):List aK→Int
 |[]=>if at_>65536 then 9 else 0
 | v::r=>if gH v.name=false∨kw v.name=true then 6 else if seen.contains v.name=true then 7
  else if(cd v.type).2≠0 then(cd v.type).2 else xr (seen++[v.name]) (aR (dX at_ (cd v.type).1.2+(cd v.type).1.1)) r
end
section
variable(kw:List UInt8→Bool)
def q_(list:List aK):Int:=if 32<list.length then 12 else xr kw [] 0 list
def s0:aS:=⟨[],0,0,0,0⟩
def vx(vars:List aK):List (List aC)→Int×Int
 |[]=>(0,0)
 |t::r=>if(gQ vars kw s0 1 t).aV≠0 then((gQ vars kw s0 1 t).nN,(gQ vars kw s0 1 t).aV)else vx vars r
def jk(p:jT):Int×Int:=
 if 32<p.vars.length∨p.threads.length<1∨8<p.threads.length then(0,12)
 else if q_ kw p.vars≠0 then(0,q_ kw p.vars)else vx kw p.vars p.threads
end
theorem Us(vars:List aK)(s:aS)(d:Int)(e:aF):qD vars s d e=if(f_ s d e).aV≠0 then f_ s d e
  else eH vars (if e.kind≥4 then mI vars (if e.kind=2 then(f_ s d e).cZ ((f_ s d e).has e.name) 6 else f_ s d e) (aR (10+e.kind)) d e.place else(if e.kind=2 then(f_ s d e).cZ ((f_ s d e).has e.name) 6 else f_ s d e)) d e.kids:=by
 cases e;rw[qD]
theorem Ve(vars:List aK)(s:aS)(k d:Int)(x:aT):mI vars s k d x=if s.aV≠0 then s else iZ vars (qS vars s k x) d x.parts:=by cases x;rw[mI]
theorem Vf(vars:List aK)(s:aS)(d:Int)(p:a_):uf vars s d p=kK vars s d p.index:=by cases p;rw[uf]
theorem stM_eq(vars:List aK)(kw:List UInt8→Bool)(s:aS)(d:Int)(x:aC):stM vars kw s d x=gQ vars kw ((gQ vars kw (fm vars kw s d x) (aR (d+1)) x.aZ).at x.line) (aR (d+1)) x.bz:=by cases x;rw[stM];rfl
theorem oV{s:aS}(h:s.aV≠0)(ok:Bool)(e:Int):s.cZ ok e=s:=by unfold aS.cZ;rw[if_neg fun x=>h x.2]
theorem amH{s:aS}(h:s.aV≠0)(d:Int)(e:aF):f_ s d e=s:=by unfold f_;rw[oV h,oV h,oV h]
section
variable(vars:List aK)(kw:List UInt8→Bool)
theorem abP{s:aS}(h:s.aV≠0)(d:Int)(e:aF):qD vars s d e=s:=by rw[Us,amH h,if_pos h]
theorem Hw{s:aS}(h:s.aV≠0)(d:Int):∀l,eH vars s d l=s
 |[]=>by rw[eH]
 |e::r=>by rw[eH,if_pos h,Hw h d r]
theorem aa_{s:aS}(h:s.aV≠0)(d:Int):∀l,kK vars s d l=s
 |[]=>by rw[kK]
 |e::r=>by rw[kK,abP vars h,aa_ h d r]
theorem abo{s:aS}(h:s.aV≠0)(d:Int):∀l,iZ vars s d l=s
 |[]=>by rw[iZ]
 |p::r=>by rw[iZ,Vf,aa_ vars h,abo h d r]
theorem aqf{s:aS}(h:s.aV≠0)(k d:Int)(x:aT):mI vars s k d x=s:=by rw[Ve,if_pos h]
theorem vj{s:aS}(h:s.aV≠0)(n:Nat)(d:Int):∀l,iJ vars kw s n d l=s.back n
 |[]=>by rw[iJ]
 |x::r=>by rw[iJ,if_pos h,vj h n d r]
theorem aar:∀{l:List (List aC)},(vx kw vars l).2=0↔∀t∈l,(gQ vars kw s0 1 t).aV=0
 |[]=>by simp[vx]
 | t :: r=>by
  rw[vx];by_cases h:(gQ vars kw s0 1 t).aV=0
  · rw[if_neg (by simpa using h),aar (l:=r)];simp[h]
  · rw[if_pos h];simp[h]
end
section
variable(kw:List UInt8→Bool)(p:jT)
end
end Rb

namespace Rb
open Go
def dw(vars:List aK)(s:aS)(loc:AV):List AV:=[aQ aK.cells vars,loc,.int .i64 s.lets,.int .i64 s.line,.int .i64 s.nN,.int .i64 s.aV]
def cM(id:Nat)(H H':AH):Prop:=H.n≤H'.n∧∀i o,i≠id→At H i o→At H' i o
theorem cM.refl(id:Nat)(H:AH):cM id H H:=⟨Nat.le_refl _,fun _ _ _ h=>h⟩
theorem cM.trans{id:Nat}{a b c:AH}(h:cM id a b)(k:cM id b c):cM id a c:=⟨Nat.le_trans h.1 k.1,fun i o hi ho=>k.2 i o hi (h.2 i o hi ho)⟩
theorem cM.push(id:Nat)(H:AH)(x:dc):cM id H (H.push x):=⟨Nat.le_succ _,fun i o _ h=>h.push x⟩
theorem cM.set(id:Nat)(H:AH)(x:dc):cM id H (H.set id x):=⟨Nat.le_refl _,fun i o hi h=>h.dq hi x⟩
def mP(H:AH)(id:Nat)(loc:AV)(l:List (List UInt8)):Prop:=(loc = .aq .nil 0 []∧l=[])∨∃j cs,loc = .row j 0 l.length 1∧j≠id∧At H j (.row cs)∧l.length≤cs.length∧cs.take l.length=l.map .str
theorem mP.aY{H H':AH}{id:Nat}{loc:AV}{l:List (List UInt8)}(h:mP H id loc l)(k:cM id H H'):mP H' id loc l:=by
 rcases h with h|⟨j,cs,h1,h2,h3,h4,h5⟩
 ·exact .inl h
 ·exact .inr ⟨j,cs,h1,h2,k.2 j _ h2 h3,h4,h5⟩
def gR(a b:aS):Prop:=b.locals=a.locals∧b.lets=a.lets
theorem gR.refl(a:aS):gR a a:=⟨rfl,rfl⟩
theorem gR.trans{a b c:aS}(h:gR a b)(k:gR b c):gR a c:=⟨k.1.trans h.1,k.2.trans h.2⟩
theorem jF(s:aS)(ok:Bool)(e:Int):gR s (s.cZ ok e):=by
 unfold aS.cZ;split
 ·exact⟨rfl,rfl⟩
 ·exact gR.refl s
theorem ZV(s:aS)(d:Int)(e:aF):gR s (f_ s d e):=(jF _ _ _).trans ((jF _ _ _).trans (jF _ _ _))
theorem So(s:aS)(d:Int)(x:aC):gR s (ib s d x):=(jF _ _ _).trans ((jF _ _ _).trans (jF _ _ _))
section
variable(vars:List aK)
theorem akI(s:aS)(k:Int)(x:aT):gR s (qS vars s k x):=(jF _ _ _).trans (jF _ _ _)
mutual
theorem Mr:∀(e:aF)(s:aS)(d:Int),gR s (qD vars s d e)
 | .mk kind n name op order place kids,s,d=>by
  have h0:=ZV s d (.mk kind n name op order place kids);rw[qD];split
  ·exact h0
  · have h1:gR s (if kind=2 then(f_ s d (.mk kind n name op order place kids)).cZ ((f_ s d (.mk kind n name op order place kids)).has name) 6 else f_ s d (.mk kind n name op order place kids)):=by
      split
      ·exact h0.trans (jF _ _ _)
      ·exact h0
    refine gR.trans ?_ (Mb kids _ d);split
    ·exact h1.trans (S2 place _ _ d)
    ·exact h1
theorem Mb:∀(l:List aF)(s:aS)(d:Int),gR s (eH vars s d l)
 |[],s,d=>by rw[eH];exact gR.refl s
 | e::r,s,d=>by
  rw[eH];refine gR.trans ?_ (Mb r _ d);split
  ·exact gR.refl s
  ·exact Mr e s _
theorem S2:∀(x:aT)(s:aS)(k d:Int),gR s (mI vars s k d x)
 | .mk var parts,s,k,d=>by
  rw[mI];split
  ·exact gR.refl s
  ·exact(akI vars s k _).trans (aap parts _ d)
theorem aap:∀(l:List a_)(s:aS)(d:Int),gR s (iZ vars s d l)
 |[],s,d=>by rw[iZ];exact gR.refl s
 |p::r,s,d=>by rw[iZ];exact(am9 p s d).trans (aap r _ d)
theorem am9:∀(p:a_)(s:aS)(d:Int),gR s (uf vars s d p)
 | .mk field index,s,d=>by rw[uf];exact aao index s d
theorem aao:∀(l:List aF)(s:aS)(d:Int),gR s (kK vars s d l)
 |[],s,d=>by rw[kK];exact gR.refl s
 |e::r,s,d=>by rw[kK];exact(Mr e s _).trans (aao r _ d)
end
end
theorem mP.still{H:AH}{id:Nat}{loc:AV}{a b:aS}(h:mP H id loc a.locals)(k:gR a b):mP H id loc b.locals:=by rw[k.1];exact h
section
variable{Φ:aj}{H:AH}{Q:ae}{id:Nat}{vars:List aK}{s:aS}{loc:AV}
theorem BS(ef:At H id (.row (dw vars s loc)))(hQ:Q (.bool (s.aV != 0)) H):S.f28 Φ (.ptr id 0) H Q:=by unfold S.f28;simp only[bR,ab,aa,Nat.zero_add];rw[ef.load,show cC (dw vars s loc) (4+1) 1 false=some (.int .i64 s.aV)from rfl];simp only[aa,eK];exact hQ
theorem ou(hT:Cl Φ S.cH){ok:Bool}{e:Int}(ef:At H id (.row (dw vars s loc)))(hQ:∀H',cM id H H'→At H' id (.row (dw vars (s.cZ ok e) loc))→Q (.aM []) H') :
  Φ K.f69 [.ptr id 0,.bool ok,.int .i64 e] H Q:=by
 refine S.arq hT ?_;unfold S.f69;have k1:∀b:Bool,(b=true↔ok=false∧s.aV=0)→ak (S.Pq Φ (.ptr id 0) (.int .i64 e) Q) [.bool b] H:=by
  intro b hb;simp only[aG,S.Pq,aA,aD,bR,ab,Nat.zero_add,aa];refine aN (fun h=>?_) (fun h=>?_)
  · rw[ef.load,show cC (dw vars s loc) 3 1 false=some (.int .i64 s.line)from rfl];simp only[aa];rw[show bJ [.int .i64 0,.int .i64 0] [(0,1,.int .i64 s.line),(1,1,.int .i64 e)]=some (.agg [.int .i64 s.line,.int .i64 e])from rfl];simp only[aa];rw[ef.store,if_pos ⟨rfl,rfl,rfl,by simp[dw]⟩];simp only[aa];refine hQ _ (cM.set id H _) ?_;have:s.cZ ok e={s with nN:=s.line,aV:=e}:=by unfold aS.cZ;rw[if_pos (hb.1 h)]
    rw[this];exact ef.set _
  · refine hQ H (cM.refl _ _) ?_;have:s.cZ ok e=s:=by unfold aS.cZ;rw[if_neg fun x=>h (hb.2 x)]
    rw[this];exact ef
 simp only[gk,aa,ck];refine aN (fun h=>?_) (fun h=>?_)
 · refine S.BT hT (BS ef ?_);simp only[gk,aa];refine k1 _ ?_;simp only[Bool.not_eq_true']at h;simp[h]
 · refine k1 _ ?_;simp only[Bool.not_eq_true',Bool.not_eq_false]at h;simp[h]
theorem amg{a:AV}{xs:List (List UInt8)}{t:List UInt8}(hlen:br false a=some (.int .i64 xs.length))(hr:∀(i:Nat) x,xs[i]?=some x→∃p,bj none 1 a (.int .i64 i)=some p∧J H 1 false p=some (.str x))(hb:xs.length≤9223372036854775807)
  (hQ:Q (.int .i64 (kx (xs.findIdx? fun x=>t==x))) H):S.f94 Φ a (.str t) H Q:=by
 unfold S.f94;rw[hlen];simp only[aa];have main:∀(ys:List (List UInt8)) (i:Nat),xs.drop i=ys→Q (.int .i64 (kx ((ys.findIdx? fun x=>t==x).map (·+ i)))) H→aB (S.PH Φ a (.str t) (.int .i64 xs.length) Q) ([.int .i64 i],H):=by
  intro ys;induction ys with
  | nil=>intro i hi hq;have hle:=fe hi;refine aB.step ?_;simp only[S.PH,aA,bF,aa,aD];rw[if_neg (by simp only[decide_eq_true_eq];omega)];simpa[kx]using hq
  | cons y ys ih=>
   intro i hi hq;obtain⟨aO,hy,hd⟩:=eX hi;obtain⟨p,h1,h2⟩:=hr i y hy;refine aB.step ?_;simp only[S.PH,aA,bF,aa,aD];rw[if_pos (by simp only[decide_eq_true_eq];omega),h1];simp only[aa];rw[h2];simp only[aa,lq,aD];rw[List.findIdx?_cons]at hq;by_cases he:(t==y)=true
   · rw[if_pos he];rw[if_pos he]at hq;simpa[kx]using hq
   · rw [if_neg he];rw[if_neg he]at hq;simp only[cp,aa];rw[wrap_i64 (by omega) (by omega),show((i:Int)+1)=((i+1:Nat):Int) by simp];refine ih (i+1) hd ?_;have:(List.findIdx? (fun x=>t==x) ys).map (·+ (i+1))=((List.findIdx? (fun x=>t==x) ys).map (·+ 1)).map (·+ i):=by
      rw[Option.map_map];congr 1;funext k;simp only[Function.comp];omega
     rw[this];exact hq
 refine main xs 0 rfl ?_;simpa using hQ
theorem Sa(hT:Cl Φ S.cH){a:AV}{xs:List (List UInt8)}{t:List UInt8}(hlen:br false a=some (.int .i64 xs.length))(hr:∀(i:Nat) x,xs[i]?=some x→∃p,bj none 1 a (.int .i64 i)=some p∧J H 1 false p=some (.str x))(hb:xs.length≤9223372036854775807)
  (hQ:Q (.bool (xs.any fun x=>t==x)) H):Φ K.f66 [a,.str t] H Q:=by
 refine S.arp hT ?_;unfold S.f66;refine S.arQ hT (amg hlen hr hb ?_);simp only[kG,aa,MA];exact hQ
theorem Hu(hT:Cl Φ S.cH){x:List UInt8}(ef:At H id (.row (dw vars s loc)))(cx:mP H id loc s.locals)(hb:s.locals.length≤1000)(hQ:Q (.bool (s.has x)) H):Φ K.f72 [.ptr id 0,.str x] H Q:=by
 refine S.arv hT ?_;unfold S.f72;simp only[bR,ab,aa,Nat.zero_add];rw[ef.load,show cC (dw vars s loc) 1 1 false=some loc from rfl];simp only[aa];rcases cx with⟨rfl,h⟩|⟨j,cs,rfl,h2,h3,h4,h5⟩
 · unfold aS.has at hQ;rw[h]at hQ;exact Sa hT (xs:=[]) rfl (fun i x hx=>by cases hx) (by simp) hQ
 · refine Sa hT (xs:=s.locals) rfl (fun i y hy=>?_) (by omega) hQ;have aO:=(List.getElem?_eq_some_iff.1 hy).1;refine⟨.ptr j i,?_,?_⟩
   · simp only[bj];rw[if_pos ⟨by omega,by omega⟩];simp
   · rw [h3.load];unfold cC;rw[if_pos (by omega)];have e:cs[i]?=some (.str y):=by
      have:=congrArg (fun l=>l[i]?) h5;simp only[List.getElem?_take,List.getElem?_map,hy,if_pos aO,Option.map_some]at this;exact this
     simp[e]
end
end Rb

namespace Rb
open Go
section
variable{Φ:aj}{H:AH}{Q:ae}
theorem ajH{k o:Int}(hQ:Q (.bool (kP k o)) H):S.f71 Φ (.int .i64 k) (.int .i64 o) H Q:=by
 have e:∀b:Bool,b=kP k o→Q (.bool b) H:=fun b h=>by rw[h];exact hQ
 simp only[S.f71,S.UT,S.UU,S.ad6,S.Pr,S.UW,S.UX,aG,aA,cn,kG,mL,aa,aD,ck,cj,Bool.false_eq_true,if_false,if_true]
 repeat' (refine aN (fun h=>?_) (fun h=>?_))
 all_goals (refine e _ ?_;simp only[beq_iff_eq,decide_eq_true_eq,ge_iff_le,beq_eq_false_iff_ne,ne_eq]at *;first|(subst_vars;simp[kP];done)|(simp_all [kP];done)|(simp_all [kP];omega)|skip)
theorem Zh{x:aT}(hQ:Q (.bool (jS x)) H):S.f98 Φ (.agg x.cells) H Q:=by
 unfold S.f98;simp only[PO,bw,BO,aa,VL,Ch,cu,lq,cn,ck];unfold jS at hQ;refine aN (fun h=>?_) (fun h=>?_)
 · rw[h]at hQ;have e:((x.parts.length:Int)==0)=(x.parts.length==0):=by rw[Bool.eq_iff_iff];simp
   rw[e];simpa using hQ
 · simp only[Bool.not_eq_true]at h;rw[h]at hQ;exact hQ
theorem ajM{k:Int}{t:aE}(hQ:Q (.bool (mO k t)) H):S.f100 Φ (.int .i64 k) (.agg t.cells) H Q:=by
 have e:∀b:Bool,b=mO k t→Q (.bool b) H:=fun b h=>by rw[h];exact hQ
 simp only[S.f100,S.abQ,S.Tq,S.Tr,lu,bw,dt,aa,qm,vy,aG,aA,cn,mL,aD,ck]
 repeat' (refine aN (fun h=>?_) (fun h=>?_))
 all_goals (refine e _ ?_;unfold mO;simp only[beq_iff_eq]at *;first|(exfalso;omega)|(subst_vars;simp[*];done)|(simp[*];done)|(subst_vars;simp_all;done)|skip)
def vF(k:Int):List AV:=if 1≤k∧k≤10 then [.bool (iO k).1,.bool (iO k).2.1,.bool (iO k).2.2.1,.int .i64 (iO k).2.2.2.1,.bool (iO k).2.2.2.2.1,.bool (iO k).2.2.2.2.2]else [.bool false,.bool false,.bool false,.int .i64 0,.bool false,.bool false]
theorem anJ(k:Int):(vF k).length=6:=by unfold vF;split<;>rfl
theorem ak8(k:Int):(vF k).all AV.scalar=true:=by unfold vF;split<;>rfl
theorem aj_{k:Int}(hQ:∀H',Q (.aM [.agg (vF k),.bool (decide (1≤k)&&decide (k≤10))]) H'):S.f97 Φ (.int .i64 k) H Q:=by
 have fin:∀(cs:List AV)(b:Bool) H',vF k=cs→(decide (1≤k)&&decide (k≤10))=b→Q (.aM [.agg cs,.bool b]) H':=fun cs b H' h1 h2=>by rw[←h1,←h2];exact hQ H'
 clear hQ;simp only[S.f97,S.ad_,S.U1,S.U2,bw,be,if_true,aa,aG,aA,cn,aD]
 repeat' (refine aN (fun h=>?_) (fun h=>?_))
 all_goals (refine⟨_,rfl,_,fC _ _ _ 6 rfl rfl rfl,_,by rw[jQ];exact mK rfl,fin _ _ _ ?_ ?_⟩)
 all_goals (simp only[beq_iff_eq]at *;first|(exfalso;omega)|(subst_vars;rfl)|skip)
 ·unfold vF;rw[if_neg (by omega)]
 ·rw[Bool.and_eq_false_iff,decide_eq_false_iff_not,decide_eq_false_iff_not];omega
theorem Es(e:aF)(H:AH):bB H false 8 (.agg e.cells)=some (.av e.cells,H):=by unfold bB;rw[if_pos ⟨rfl,e.len⟩];rfl
theorem oZ(e:aF)(i:Nat):ab i (.av e.cells)=some (.av (e.cells.drop i)):=rfl
theorem pn(e:aF)(H:AH):J H 1 false (.av (e.cells.drop 0))=some (.int .i64 e.kind):=by rw[aF.bf,aT.bf];rfl
theorem Vn(e:aF)(H:AH):J H 1 false (.av (e.cells.drop 1))=some (.int .u64 e.n):=by rw[aF.bf,aT.bf];rfl
theorem Qa(e:aF)(H:AH):J H 1 false (.av (e.cells.drop 2))=some (.str e.name):=by rw[aF.bf,aT.bf];rfl
theorem IZ(e:aF)(H:AH):J H 1 false (.av (e.cells.drop 3))=some (.int .i64 e.op):=by rw[aF.bf,aT.bf];rfl
theorem af3(e:aF)(H:AH):J H 1 false (.av (e.cells.drop 4))=some (.int .i64 e.order):=by rw[aF.bf,aT.bf];rfl
theorem EZ(e:aF)(H:AH):J H 2 true (.av (e.cells.drop 5))=some (.agg e.place.cells):=by rw[aF.bf,aT.bf];rfl
theorem I0(e:aF)(H:AH):J H 1 false (.av (e.cells.drop 7))=some (aQ aF.cells e.kids):=by rw[aF.bf,aT.bf];rfl
theorem Ut(e:aF)(H:AH):J H 8 true (.av e.cells)=some (.agg e.cells):=mK e.len
theorem Ao(e:aC)(H:AH):bB H false 10 (.agg e.cells)=some (.av e.cells,H):=by unfold bB;rw[if_pos ⟨rfl,e.len⟩];rfl
theorem ko(e:aC)(i:Nat):ab i (.av e.cells)=some (.av (e.cells.drop i)):=rfl
theorem nr(e:aC)(H:AH):J H 1 false (.av (e.cells.drop 0))=some (.int .i64 e.kind):=by rw[aC.bf,aT.bf];rfl
theorem VQ(e:aC)(H:AH):J H 1 false (.av (e.cells.drop 1))=some (.int .i64 e.line):=by rw[aC.bf,aT.bf];rfl
theorem yN(e:aC)(H:AH):J H 1 false (.av (e.cells.drop 2))=some (.str e.name):=by rw[aC.bf,aT.bf];rfl
theorem Qy(e:aC)(H:AH):J H 1 false (.av (e.cells.drop 3))=some (.str e.cW):=by rw[aC.bf,aT.bf];rfl
theorem Qz(e:aC)(H:AH):J H 1 false (.av (e.cells.drop 4))=some (.int .i64 e.order):=by rw[aC.bf,aT.bf];rfl
theorem Av(e:aC)(H:AH):J H 2 true (.av (e.cells.drop 5))=some (.agg e.place.cells):=by rw[aC.bf,aT.bf];rfl
theorem yO(e:aC)(H:AH):J H 1 false (.av (e.cells.drop 7))=some (aQ aF.cells e.exprs):=by rw[aC.bf,aT.bf];rfl
theorem Jf(e:aC)(H:AH):J H 1 false (.av (e.cells.drop 8))=some (aQ aC.cells e.aZ):=by rw[aC.bf,aT.bf];rfl
theorem QA(e:aC)(H:AH):J H 1 false (.av (e.cells.drop 9))=some (aQ aC.cells e.bz):=by rw[aC.bf,aT.bf];rfl
theorem afQ(e:aC)(H:AH):J H 10 true (.av e.cells)=some (.agg e.cells):=mK e.len
theorem acV{α:Type}(l:List α):((l.length:Int)==0)=(l.length==0):=by rw[Bool.eq_iff_iff];simp
theorem ite_bool{b:Bool}{A B:Prop}(h1:b=true→A)(h2:b=false→B):if b=true then A else B:=aN h1 fun h=>h2 (by simpa using h)
theorem gG{b:Bool}{A B:Prop}(h1:b=false→A)(h2:b=true→B):if b=false then A else B:=aN h1 fun h=>h2 (by simpa using h)
theorem ajI(hT:Cl Φ S.cH){e:aF}(hQ:Q (.bool (kM e)) H):S.f118 Φ (.agg e.cells) H Q:=by
 have fin:∀b:Bool,b=kM e→Q (.bool b) H:=fun b h=>by rw[h];exact hQ
 clear hQ;have k5 : (decide (1≤e.kind)&&decide (e.kind≤8))=true→S.Aa Φ (.av e.cells) Q [.int .i64 (ni e.kind).1,.bool (ni e.kind).2] H:=by
  intro hk;unfold kM at fin;rw[hk]at fin;simp only[Bool.true_and]at fin;generalize hK:ni e.kind=KK at fin ⊢;have k1:∀b:Bool,(∀c,c=(b&&((e.kids.length:Int)==KK.1))→Q (.bool c) H)→ak (S.HF Φ (.av e.cells) [.int .i64 KK.1,.bool KK.2] Q) [.bool b] H:=by
   intro b hb;simp only[aG,S.HF,aA,cv,ck,oZ,I0,cu,cn,aa];cases b
   ·exact hb _ rfl
   ·exact hb _ rfl
  have k2:∀b:Bool,(∀c,c=((b&&(KK.2||jS e.place))&&((e.kids.length:Int)==KK.1))→Q (.bool c) H)→ak (S.wV Φ (.av e.cells) [.int .i64 KK.1,.bool KK.2] Q) [.bool b] H:=by
   intro b hb;simp only[aG,S.wV,aA,cv,ck,cj,oZ,EZ,aa];cases b
   ·exact k1 _ fun c hc=>hb c (by rw[hc];rfl)
   · rw [if_pos rfl];refine gG (fun h=>?_) (fun h=>?_)
     · refine S.ady hT (Zh ?_);exact k1 _ fun c hc=>hb c (by rw[hc,h];rfl)
     ·exact k1 _ fun c hc=>hb c (by rw[hc,h];rfl)
  have k3 : ∀b:Bool,(∀c,c=(((b&&(if e.kind=3 then decide (1≤e.op)&&decide (e.op≤11)else e.op==0))&&(KK.2||jS e.place))&&((e.kids.length:Int)==KK.1))→Q (.bool c) H) →
    ak (S.HG Φ (.av e.cells) (.bool (e.kind==3)) [.int .i64 KK.1,.bool KK.2] Q) [.bool b] H:=by
   intro b hb;simp only[aG,S.HG,aA,cv,ck,cj,oZ,IZ,aa,kG,mL,cn,gk];cases b
   ·exact k2 _ fun c hc=>hb c (by rw[hc];rfl)
   · rw [if_pos rfl];refine ite_bool (fun h=>?_) (fun h=>?_)
     · rw [if_pos (by simpa using h)]at hb;refine ite_bool (fun h1=>?_) (fun h1=>?_)
       · refine gG (fun h2=>?_) (fun h2=>?_)
         · rw[h,if_neg (by decide)];exact k2 _ fun c hc=>hb c (by rw[hc];simp only[ge_iff_le]at h1;rw[h1,h2];rfl)
         ·exact k2 _ fun c hc=>hb c (by rw[hc];simp only[ge_iff_le]at h1;rw[h1,h2];rfl)
       · rw[h,if_neg (by decide)];exact k2 _ fun c hc=>hb c (by rw[hc];simp only[ge_iff_le]at h1;rw[h1];rfl)
     · rw[if_neg (by simpa using h)]at hb;rw[h,if_pos (by decide)];exact k2 _ fun c hc=>hb c (by rw[hc];rfl)
  have k4:∀b:Bool,(∀c,c=((((b&&(e.kind==2||e.name==[]))&&(if e.kind=3 then decide (1≤e.op)&&decide (e.op≤11)else e.op==0))&&(KK.2||jS e.place))&&((e.kids.length:Int)==KK.1))→Q (.bool c) H) →
    ak (S.M3 Φ (.av e.cells) (.bool (e.kind==3)) [.int .i64 KK.1,.bool KK.2] Q) [.bool b] H:=by
   intro b hb;simp only[aG,S.M3,aA,cv,ck,cj,oZ,pn,Qa,aa,cn,lq];cases b
   ·exact k3 _ fun c hc=>hb c (by rw[hc];rfl)
   · rw[if_pos rfl];refine gG (fun h=>?_) (fun h=>?_)
     ·exact k3 _ fun c hc=>hb c (by rw[hc,h];rfl)
     ·exact k3 _ fun c hc=>hb c (by rw[hc,h];rfl)
  simp only[S.Aa,oZ,pn,Vn,aa,cn,cj];refine gG (fun h=>?_) (fun h=>?_)
  ·exact k4 _ fun c hc=>fin c (by rw[hc,h];rfl)
  ·exact k4 _ fun c hc=>fin c (by rw[hc,h];rfl)
 simp only[S.f118,S.Tt,S.Tu,S.Tv,Es,bw,oZ,pn,aa,aG,aA,cn,aD,beq_iff_eq];have g:∀n b,ni e.kind=(n,b)→(decide (1≤e.kind)&&decide (e.kind≤8))=true→S.Aa Φ (.av e.cells) Q [.int .i64 n,.bool b] H:=fun n b h hk=>by have:=k5 hk;rw[h]at this;exact this
 repeat' (refine aN (fun h=>?_) (fun h=>?_))
 all_goals first
  |(exfalso;omega)
  | (refine g _ _ ?_ ?_
     · unfold ni;simp[*]
     ·simp[*])
  |skip
 refine fin _ ?_;have:(decide (1≤e.kind)&&decide (e.kind≤8))=false:=by rw[Bool.and_eq_false_iff,decide_eq_false_iff_not,decide_eq_false_iff_not];omega
 unfold kM;rw[this];rfl
end
end Rb

namespace Rb
open Go
theorem Al:maxLen=9223372036854775807:=by decide
theorem aF.eS{e:aF}(h:e.ok):(e.kids.length≤9223372036854775807∧∀k∈e.kids,k.ok)∧e.place.ok:=by
 rw[←Al];cases e with
 | mk kind n name op order place kids=>obtain⟨_,_,_,_,_,h6,h7,h8⟩:=h;exact⟨⟨h7,aF.iW.1 h8⟩,h6⟩
theorem aT.eS{x:aT}(h:x.ok):x.parts.length≤9223372036854775807∧∀p∈x.parts,p.index.length≤9223372036854775807∧∀i∈p.index,i.ok:=by
 rw[←Al];cases x with
 | mk var parts=>
  obtain⟨_,h2,h3⟩:=h;refine⟨h2,fun p hp=>?_⟩;have:=a_.iW.1 h3 p hp;cases p with
  | mk field index=>obtain⟨_,h5,h6⟩:=this;exact⟨h5,aF.iW.1 h6⟩
theorem aF.ind{P:aF→Prop}(h:∀e:aF,(∀k∈e.kids,P k)→(∀p∈e.place.parts,∀i∈p.index,P i)→P e):∀e,P e:=by
 have main:∀(n:Nat)(e:aF),sizeOf e<n→P e:=by
  intro n;induction n with
  |zero=>intro e he;omega
  | succ n ih=>
   intro e he;refine h e (fun k hk=>ih _ ?_) fun p hp i hi=>ih _ ?_
   · cases e with
     | mk kind n name op order place kids=>have:=List.sizeOf_lt_of_mem hk;simp at this he ⊢;omega
   · cases e with
     | mk kind n name op order place kids=>
      cases place with
      | mk var parts=>
       have h1:=List.sizeOf_lt_of_mem hp;cases p with
       | mk field index=>have h2:=List.sizeOf_lt_of_mem hi;simp at h1 h2 he ⊢;omega
 exact fun e=>main _ e (Nat.lt_succ_self _)
section
variable{C:Ctx}(aw:dz C)(hT:Cl (au C) S.cH)
include aw hT
theorem aaM(k o:Int):cG (au C) K.f71 [.int .i64 k,.int .i64 o] (.bool (kP k o)):=fun H Q hQ=>S.aru hT (ajH hQ)
theorem alU(e:aF):cG (au C) K.f118 [.agg e.cells] (.bool (kM e)):=fun H Q hQ=>S.aoN hT (ajI hT hQ)
theorem anD(k:Int)(t:aE):cG (au C) K.f100 [.int .i64 k,.agg t.cells] (.bool (mO k t)):=fun H Q hQ=>S.aoy hT (ajM hQ)
theorem an5(t:aE)(p:a_)(hs:ed t=0)(hl:p.index.length≤maxLen):cG (au C) K.f117 [.agg t.cells,.agg p.cells] (mB (fU t p)):=cG.of aw (by simp[AV.dD,AV.cD,aE.cD,a_.cD]) (SW _) fun Q hQ=>S.aoM hT (ajO hT hs hl hQ)
theorem am2(vars:List aK)(x:aT)(hl:vars.length≤maxLen)(hv:∀v∈vars,v.ok)(hx:x.ok):cG (au C) K.f99 [aQ aK.cells vars,.agg x.cells] (mB (dm vars x)):=by
 have hp:=aT.eS hx;rw[←Al]at hp;exact cG.of aw (by simp[AV.dD,AV.cD,aT.cD,zZ aK.cD]) (SW _) fun Q hQ=>S.arS hT (ajJ hT hl hp.1 (fun v u7=>Zq aw hT v.type (hv v u7).2) (fun t p hs j_=>an5 aw hT t p hs (hp.2 p j_).1) hQ)
end
def P1(C:Ctx)(id:Nat)(vars:List aK)(e:aF):Prop:=
 ∀ (s:aS) (d:Int) (loc:AV) (H:AH) (Q:ae),At H id (.row (dw vars s loc))→mP H id loc s.locals→s.locals.length≤1000 →
  (∀H',cM id H H'→At H' id (.row (dw vars (qD vars s d e) loc))→Q (.aM []) H')→au C K.f101 [.ptr id 0,.agg e.cells,.int .i64 d] H Q
def np(r:Int×aE):List AV:=if r.1=0 then r.2.cells else gZ
theorem SV(r:Int×aE):(np r).length=6:=by unfold np;split;exact r.2.len;rfl
theorem ZF(r:Int×aE):(np r).all AV.scalar=true:=by unfold np;split;exact r.2.scalar;rfl
theorem ac7(r:Int×aE):mB r = .aM [.agg (np r),.int .i64 r.1]:=by unfold mB np;split;rename_i h;rw[h];rfl
section
variable{C:Ctx}(aw:dz C)(hT:Cl (au C) S.cH){id:Nat}{vars:List aK}
include aw hT
theorem Z3{l:List aF}(hl:l.length≤9223372036854775807)(hE:∀e∈l,P1 C id vars e){s:aS}{d:Int}{loc:AV}{H:AH}{Q:ae}(ef:At H id (.row (dw vars s loc)))(cx:mP H id loc s.locals)(hb:s.locals.length≤1000)
  (hQ:∀H',cM id H H'→At H' id (.row (dw vars (eH vars s d l) loc))→Q (.aM []) H'):au C K.f74 [.ptr id 0,aQ aF.cells l,.int .i64 d] H Q:=by
 refine S.arx hT ?_;unfold S.f74;simp only[cu,aa];have main:∀(r:List aF)(i:Nat)(s':aS)(H1:AH),l.drop i=r→gR s s'→cM id H H1→At H1 id (.row (dw vars s' loc))→eH vars s' d r=eH vars s d l →
   aB (S.IB (au C) (.ptr id 0) (aQ aF.cells l) (.int .i64 d) (.int .i64 l.length) Q) ([.int .i64 i],H1):=by
  intro r;induction r with
  | nil=>intro i s' H1 hd aX hk ha he;have hle:=fe hd;refine aB.step ?_;simp only[S.IB,aA,bF,aa,aD];rw[if_neg (by simp only[decide_eq_true_eq];omega)];rw[eH]at he;exact hQ H1 hk (by rw[←he];exact ha)
  | cons e r ih=>
   intro i s' H1 hd aX hk ha he;obtain⟨aO,hx,bC⟩:=eX hd;refine aB.step ?_;simp only[S.IB,aA,bF,aa,aD];rw[if_pos (by simp only[decide_eq_true_eq];omega),d_ aO];simp only[aa];rw[gO aF.len (by decide) _ hx];simp only[aa,bw,be,if_true];rw[fC _ _ _ 8 e.len e.scalar rfl];simp only[aa];have sy:=ha.push (.row e.cells);have eZ:=hk.trans (cM.push id H1 (.row e.cells));have uY:J (H1.push (.row e.cells)) 8 true (.ptr H1.n 0)=some (.agg e.cells):=by rw[jQ,mK e.len]
   have next:∀(s2:aS)(H3:AH),cM id H H3→At H3 id (.row (dw vars s2 loc))→gR s s2→eH vars s2 d r=eH vars s d l →
     ak (S.Pu (au C) ([.int .i64 i],H1) (aB (S.IB (au C) (.ptr id 0) (aQ aF.cells l) (.int .i64 d) (.int .i64 l.length) Q)) Q) [] H3:=by
    intro s2 H3 k3 a3 h3 e3;simp only[aG,S.Pu,aA,cp,aa];rw[wrap_i64 (by omega) (by omega),show((i:Int)+1)=((i+1:Nat):Int) by simp];exact ih (i+1) s2 H3 bC h3 k3 a3 e3
   rw[eH]at he;generalize H1.push (.row e.cells)=H2 at *;refine S.BT hT (BS sy ?_);simp only[gk,aa,aD];refine aN (fun h=>?_) (fun h=>?_)
   · have h0:s'.aV=0:=by simpa using h
     rw[if_neg (by simpa using h0)]at he;simp only[uY,aa,cp];refine hE e (List.mem_of_getElem? hx) s' _ loc H2 _ sy ((cx.aY eZ).still aX) (by rw[aX.1];exact hb) fun H3 k3 a3=>?_;exact next _ H3 (eZ.trans k3) a3 (aX.trans (Mr vars e s' _)) he
   · have h0:s'.aV≠0:=by simpa using h
     rw[if_pos h0]at he;exact next s' H2 eZ sy aX he
 exact main l 0 s H rfl (gR.refl s) (cM.refl id H) ef rfl
theorem ZA(yg:vars.length≤maxLen)(hv:∀v∈vars,v.ok){x:aT}(hx:x.ok)(hE:∀p∈x.parts,∀i∈p.index,P1 C id vars i){s:aS}{k d:Int}{loc:AV}{H:AH}{Q:ae}(ef:At H id (.row (dw vars s loc)))(cx:mP H id loc s.locals)(hb:s.locals.length≤1000)
  (hQ:∀H',cM id H H'→At H' id (.row (dw vars (mI vars s k d x) loc))→Q (.aM []) H'):au C K.f73 [.ptr id 0,.int .i64 k,.agg x.cells,.int .i64 d] H Q:=by
 obtain⟨Yk,qH⟩:=aT.eS hx;refine S.arw hT ?_;unfold S.f73;simp only[PO,bw];refine S.BT hT (BS ef ?_);simp only[aD];rw[Ve]at hQ;refine aN (fun h=>?_) (fun h=>?_)
 · rw[if_pos (by simpa using h)]at hQ;exact hQ H (cM.refl _ _) ef
 · have h0 : s.aV=0:=by simpa using h
   rw[if_neg (by simpa using h0)]at hQ;simp only[bR,ab,aa,Nat.zero_add,Nat.add_zero];have l0:J H 1 false (.ptr id 0)=some (aQ aK.cells vars):=by rw[ef.load];rfl
   have l8:J H 2 true (.av x.cells)=some (.agg x.cells):=mK x.len;simp only[l0,l8,aa];refine am2 aw hT vars x yg hv hx _ _ ?_;rw[ac7];simp only[db,List.getElem?_cons_zero,List.getElem?_cons_succ,aa,bw,be,if_true];have a2:=ef.push (.row gZ);refine⟨(a2.load 1 0 false).trans rfl,mK x.len,?_⟩;change Do (aH (H.push (.row gZ)) 6 (.ptr H.n 0) (.agg (np (dm vars x)))) _;rw[fC _ _ _ 6 (SV _) (ZF _) rfl];simp only[aa,cn];have a3:=ef.push (.row (np (dm vars x)));have k3:=cM.push id H (.row (np (dm vars x)));have JE:=At.new H (.row (np (dm vars x)));have bU:H.n≠id:=Ne.symm ef.qR;generalize H.push (.row (np (dm vars x)))=H2 at *;generalize H.n=JO at *;refine ou hT a3 fun H4 k4 a4=>?_;have auy:=k4.2 _ _ bU JE;have DC:=k3.trans k4;have parts:∀(s1:aS)(H5:AH),gR s s1→cM id H H5→At H5 id (.row (dw vars s1 loc))→iZ vars s1 d x.parts=iZ vars (qS vars s k x) d x.parts→ak (S.Ps (au C) (.ptr id 0) (.int .i64 d) (.av x.cells) Q) [] H5:=by
    intro s1 H5 aX hk ha he;simp only[aG,S.Ps,BO,Ch,cu,aa];have main:∀(r:List a_)(i:Nat)(s':aS)(H1:AH),x.parts.drop i=r→gR s s'→cM id H H1→At H1 id (.row (dw vars s' loc))→iZ vars s' d r=iZ vars (qS vars s k x) d x.parts →
      aB (S.IA (au C) (.ptr id 0) (.int .i64 d) (aQ a_.cells x.parts) (.int .i64 x.parts.length) Q) ([.int .i64 i],H1):=by
     intro r;induction r with
     | nil=>intro i s' H1 hd aX hk ha he;have hle:=fe hd;refine aB.step ?_;simp only[S.IA,aA,bF,aa,aD];rw[if_neg (by simp only[decide_eq_true_eq];omega)];rw[iZ]at he;exact hQ H1 hk (by rw[←he];exact ha)
     | cons p r ih=>
      intro i s' H1 hd aX hk ha he;obtain⟨aO,hp,bC⟩:=eX hd;have tX:=List.mem_of_getElem? hp;refine aB.step ?_;simp only[S.IA,aA,bF,aa,aD];rw[if_pos (by simp only[decide_eq_true_eq];omega),d_ aO];simp only[aa];rw[gO a_.len (by decide) _ hp];simp only[aa,bw,be,if_true];rw[fC _ _ _ 2 p.len p.scalar rfl];simp only[aa,ab,Nat.zero_add];have sy:=ha.push (.row p.cells);have eZ:=hk.trans (cM.push id H1 (.row p.cells));have uY:J (H1.push (.row p.cells)) 1 false (.ptr H1.n 1)=some (aQ aF.cells p.index):=by rw[jQ,a_.bf];rfl
      simp only[uY,aa,cu];rw[iZ,Vf]at he;have inner:∀(q:List aF)(j:Nat)(s2:aS)(H3:AH),p.index.drop j=q→gR s s2→cM id H H3→At H3 id (.row (dw vars s2 loc))→iZ vars (kK vars s2 d q) d r=iZ vars (qS vars s k x) d x.parts →
        aB (S.Pt (au C) (.ptr id 0) (.int .i64 d) (aQ aF.cells p.index) (.int .i64 p.index.length) ([.int .i64 i],H1) (aB (S.IA (au C) (.ptr id 0) (.int .i64 d) (aQ a_.cells x.parts) (.int .i64 x.parts.length) Q)) Q) ([.int .i64 j],H3):=by
       intro q;induction q with
       | nil=>intro j s2 H3 X_ JM uX X9 qG;have hle:=fe X_;refine aB.step ?_;simp only[S.Pt,aA,bF,aa,aD];rw[if_neg (by simp only[decide_eq_true_eq];omega)];simp only[aG,S.ad7,aA,cp,aa];rw[wrap_i64 (by omega) (by omega),show((i:Int)+1)=((i+1:Nat):Int) by simp];rw[kK]at qG;exact ih (i+1) s2 H3 bC JM uX X9 qG
       | cons e q Ld=>
        intro j s2 H3 X_ JM uX X9 qG;obtain⟨WD,RL,awS⟩:=eX X_;have gL:=(qH p tX).1;refine aB.step ?_;simp only[S.Pt,aA,bF,aa,aD];rw[if_pos (by simp only[decide_eq_true_eq];omega),d_ WD];simp only[aa];rw[gO aF.len (by decide) _ RL];simp only[aa,bw,be,if_true];rw[fC _ _ _ 8 e.len e.scalar rfl];simp only[aa];have ha4:=X9.push (.row e.cells);have A8:=uX.trans (cM.push id H3 (.row e.cells));have aw3:J (H3.push (.row e.cells)) 8 true (.ptr H3.n 0)=some (.agg e.cells):=by rw[jQ,mK e.len]
        simp only[aw3,aa,cp];rw[kK]at qG;refine hE p tX e (List.mem_of_getElem? RL) s2 _ loc _ _ ha4 ((cx.aY A8).still JM) (by rw[JM.1];exact hb) fun H5 k5 a5=>?_;rw[wrap_i64 (by omega) (by omega),show((j:Int)+1)=((j+1:Nat):Int) by simp];exact Ld (j+1) _ H5 awS (JM.trans (Mr vars e s2 _)) (A8.trans k5) a5 qG
      exact inner p.index 0 s' _ rfl aX eZ sy he
    exact main x.parts 0 s1 H5 rfl aX hk ha he
   refine S.BT hT (BS a4 ?_);simp only[cj];refine gG (fun h=>?_) (fun h=>?_)
   · rw [auy.load,mK (SV _)];simp only[aa];have hr:(dm vars x).1=0:=by
      by_cases hr:(dm vars x).1=0
      ·exact hr
      · have:(s.cZ ((dm vars x).1==0) (dm vars x).1).aV=(dm vars x).1:=by
          unfold aS.cZ;rw[if_pos ⟨by simpa using hr,h0⟩]
        rw[this]at h;simp at h;exact absurd h hr
     have hc:np (dm vars x)=(dm vars x).2.cells:=by unfold np;rw[if_pos hr]
     rw[hc];refine anD aw hT _ _ _ _ ?_;refine ou hT a4 fun H6 k6 a6=>?_;refine parts _ H6 ((jF _ _ _).trans (jF _ _ _)) (DC.trans k6) a6 ?_;unfold qS;simp only[h,Bool.false_or]
   · refine ou hT a4 fun H6 k6 a6=>?_;refine parts _ H6 ((jF _ _ _).trans (jF _ _ _)) (DC.trans k6) a6 ?_;unfold qS;simp only[h,Bool.true_or]
theorem amt(yg:vars.length≤maxLen)(hv:∀v∈vars,v.ok):∀e:aF,e.ok→P1 C id vars e:=by
 refine aF.ind fun e zL wH he=>?_;obtain⟨⟨sB,gW⟩,gL⟩:=aF.eS he;have jM:=aT.eS gL;intro s d loc H Q ef cx hb hQ;refine S.aoz hT ?_;unfold S.f101;simp only[Es,bw,mL,aa];refine ou hT ef fun H1 k1 a1=>?_;simp only[Ut,aa];refine alU aw hT e _ _ ?_;refine ou hT a1 fun H2 k2 a2=>?_;simp only[oZ,pn,af3,aa,cp];refine aaM aw hT _ _ _ _ ?_;refine ou hT a2 fun H3 k3 a3=>?_;have kk:=k1.trans (k2.trans k3);rw[Us]at hQ;change At H3 id (.row (dw vars (f_ s d e) loc))at a3;have lp:=ZV s d e;generalize f_ s d e=s1 at *;refine S.BT hT (BS a3 ?_);simp only[aD];refine aN (fun h=>?_) (fun h=>?_)
 · rw[if_pos (by simpa using h)]at hQ;exact hQ H3 kk a3
 · rw [if_neg (by simpa using h)]at hQ;simp only[cn,aa,aD];have kids:∀(s3:aS)(H4:AH),gR s s3→cM id H H4→At H4 id (.row (dw vars s3 loc))→(∀H',cM id H H'→At H' id (.row (dw vars (eH vars s3 d e.kids) loc))→Q (.aM []) H')→ak (S.MN (au C) (.ptr id 0) (.int .i64 d) (.av e.cells) Q) [] H4:=by
    intro s3 H4 aX hk ha hq;simp only[aG,S.MN,oZ,I0,aa];exact Z3 aw hT sB (fun k fW=>zL k fW (gW k fW)) ha ((cx.aY hk).still aX) (by rw[aX.1];exact hb) fun H' k' a'=>hq H' (hk.trans k') a'
   have qK:∀(s2:aS)(H4:AH),gR s s2→cM id H H4→At H4 id (.row (dw vars s2 loc))→(∀H',cM id H H'→At H' id (.row (dw vars (eH vars (if e.kind≥4 then mI vars s2 (aR (10+e.kind)) d e.place else s2) d e.kids) loc))→Q (.aM []) H') →
     ak (S.MO (au C) (.ptr id 0) (.int .i64 d) (.av e.cells) Q) [] H4:=by
    intro s2 H4 aX hk ha hq;simp only[aG,S.MO,oZ,pn,EZ,aa,kG,aD,cp];refine aN (fun h=>?_) (fun h=>?_)
    · rw[if_pos (by simpa using h)]at hq;refine ZA aw hT yg hv gL (fun p hp i hi=>wH p hp i hi ((jM.2 p hp).2 i hi)) ha ((cx.aY hk).still aX) (by rw[aX.1];exact hb) fun H' k' a'=>?_;exact kids _ H' (aX.trans (S2 vars _ _ _ _)) (hk.trans k') a' hq
    · rw[if_neg (by simpa using h)]at hq;exact kids _ H4 aX hk ha hq
   refine aN (fun h=>?_) (fun h=>?_)
   · rw[show(if e.kind=2 then s1.cZ (s1.has e.name) 6 else s1)=s1.cZ (s1.has e.name) 6 from if_pos (by simpa using h)]at hQ;simp only[Qa,aa];refine Hu hT a3 ((cx.aY kk).still lp) (by rw[lp.1];exact hb) ?_;refine ou hT a3 fun H4 k4 a4=>?_;exact qK _ H4 (lp.trans (jF _ _ _)) (kk.trans k4) a4 hQ
   · rw[show(if e.kind=2 then s1.cZ (s1.has e.name) 6 else s1)=s1 from if_neg (by simpa using h)]at hQ;exact qK _ H3 lp kk a3 hQ
end
end Rb

namespace Rb
open Go
section
variable{Φ:aj}{H:AH}{Q:ae}
theorem ajN(hT:Cl Φ S.cH){x:aC}(hQ:∀H',Q (.bool (ly x)) H'):S.f70 Φ (.agg x.cells) H Q:=by
 have fin:∀(b:Bool) H',b=ly x→Q (.bool b) H':=fun b H' h=>by rw[h];exact hQ H'
 clear hQ;unfold S.f70;simp only[Ao,bw,ko,nr,aa];refine S.arR hT (aj_ fun H1=>?_);simp only[db,List.getElem?_cons_zero,List.getElem?_cons_succ,aa,bw,be,if_true];rw[fC _ _ _ 6 (anJ _) (ak8 _) rfl];simp only[aa];have at9:=At.new H1 (.row (vF x.kind));generalize H1.push (.row (vF x.kind))=H2 at *;generalize H1.n=qJ at *;by_cases hk:(decide (1≤x.kind)&&decide (x.kind≤10))=true
 · have hc:vF x.kind=[.bool (iO x.kind).1,.bool (iO x.kind).2.1,.bool (iO x.kind).2.2.1,.int .i64 (iO x.kind).2.2.2.1,.bool (iO x.kind).2.2.2.2.1,.bool (iO x.kind).2.2.2.2.2]:=by
     unfold vF;rw[if_pos (by simpa using hk)]
   rw[hc]at at9;unfold ly at fin;rw[hk]at fin ⊢;simp only[Bool.true_and]at fin;generalize iO x.kind=h at *;obtain⟨h0,h1,h2,h3,h4,h5⟩:=h;simp only at at9 fin;have k1:∀(b:Bool)(H':AH),At H' qJ (.row [.bool h0,.bool h1,.bool h2,.int .i64 h3,.bool h4,.bool h5])→(∀c eV,c=(b&&(h5||x.bz.length==0))→Q (.bool c) eV)→ak (S.EF Φ (.av x.cells) (.ptr qJ 0) Q) [.bool b] H':=by
    intro b H' ha hb;have l:J H' 1 false (.ptr qJ 5)=some (.bool h5):=by rw[ha.load];rfl
    simp only[aG,S.EF,aA,ck,cj,ab,Nat.zero_add,QA,aa,cu,cn,l,acV];cases b
    ·exact hb _ _ rfl
    · rw[if_pos rfl];refine gG (fun h=>?_) (fun h=>?_)
      ·exact hb _ _ (by rw[h];rfl)
      ·exact hb _ _ (by rw[h];rfl)
   have k2:∀(b:Bool)(H':AH),At H' qJ (.row [.bool h0,.bool h1,.bool h2,.int .i64 h3,.bool h4,.bool h5])→(∀c eV,c=(b&&(h4||x.aZ.length==0)&&(h5||x.bz.length==0))→Q (.bool c) eV)→ak (S.Iz Φ (.av x.cells) (.ptr qJ 0) Q) [.bool b] H':=by
    intro b H' ha hb;have l:J H' 1 false (.ptr qJ 4)=some (.bool h4):=by rw[ha.load];rfl
    simp only[aG,S.Iz,aA,ck,cj,ab,Nat.zero_add,Jf,aa,cu,cn,l,acV];cases b
    ·exact k1 _ _ ha fun c eV hc=>hb c eV (by rw[hc];rfl)
    · rw[if_pos rfl];refine gG (fun h=>?_) (fun h=>?_)
      ·exact k1 _ _ ha fun c eV hc=>hb c eV (by rw[hc,h];rfl)
      ·exact k1 _ _ ha fun c eV hc=>hb c eV (by rw[hc,h];rfl)
   have k3:∀(b:Bool)(H':AH),At H' qJ (.row [.bool h0,.bool h1,.bool h2,.int .i64 h3,.bool h4,.bool h5])→(∀c eV,c=(b&&((x.exprs.length:Int)==h3)&&(h4||x.aZ.length==0)&&(h5||x.bz.length==0))→Q (.bool c) eV) →
     ak (S.EG Φ (.av x.cells) (.ptr qJ 0) Q) [.bool b] H':=by
    intro b H' ha hb;have l:J H' 1 false (.ptr qJ 3)=some (.int .i64 h3):=by rw[ha.load];rfl
    simp only[aG,S.EG,aA,ck,cj,ab,Nat.zero_add,yO,aa,cu,cn,l];cases b
    ·exact k2 _ _ ha fun c eV hc=>hb c eV (by rw[hc];rfl)
    · rw[if_pos rfl];exact k2 _ _ ha fun c eV hc=>hb c eV (by rw[hc];rfl)
   have k4:∀(b:Bool)(H':AH),At H' qJ (.row [.bool h0,.bool h1,.bool h2,.int .i64 h3,.bool h4,.bool h5])→(∀c eV,c=(b&&(h2||jS x.place)&&((x.exprs.length:Int)==h3)&&(h4||x.aZ.length==0)&&(h5||x.bz.length==0))→Q (.bool c) eV) →
     ak (S.EH Φ (.av x.cells) (.ptr qJ 0) Q) [.bool b] H':=by
    intro b H' ha hb;have l:J H' 1 false (.ptr qJ 2)=some (.bool h2):=by rw[ha.load];rfl
    simp only[aG,S.EH,aA,ck,cj,ab,Nat.zero_add,Av,aa,l];cases b
    ·exact k3 _ _ ha fun c eV hc=>hb c eV (by rw[hc];rfl)
    · rw [if_pos rfl];refine gG (fun h=>?_) (fun h=>?_)
      · refine S.ady hT (Zh ?_);exact k3 _ _ ha fun c eV hc=>hb c eV (by rw[hc,h];rfl)
      ·exact k3 _ _ ha fun c eV hc=>hb c eV (by rw[hc,h];rfl)
   have k5:∀(b:Bool)(H':AH),At H' qJ (.row [.bool h0,.bool h1,.bool h2,.int .i64 h3,.bool h4,.bool h5])→(∀c eV,c=(b&&(h1||x.cW==[])&&(h2||jS x.place)&&((x.exprs.length:Int)==h3)&&(h4||x.aZ.length==0)&&(h5||x.bz.length==0))→Q (.bool c) eV) →
     ak (S.EI Φ (.av x.cells) (.ptr qJ 0) Q) [.bool b] H':=by
    intro b H' ha hb;have l:J H' 1 false (.ptr qJ 1)=some (.bool h1):=by rw[ha.load];rfl
    simp only[aG,S.EI,aA,ck,cj,ab,Nat.zero_add,Qy,aa,l,lq];cases b
    ·exact k4 _ _ ha fun c eV hc=>hb c eV (by rw[hc];rfl)
    · rw[if_pos rfl];refine gG (fun h=>?_) (fun h=>?_)
      ·exact k4 _ _ ha fun c eV hc=>hb c eV (by rw[hc,h];rfl)
      ·exact k4 _ _ ha fun c eV hc=>hb c eV (by rw[hc,h];rfl)
   have l:J H2 1 false (.ptr qJ 0)=some (.bool h0):=by rw[at9.load];rfl
   simp only[ck,cj,ab,Nat.zero_add,Nat.add_zero,l,aa,yN,lq,if_true];refine gG (fun h=>?_) (fun h=>?_)
   ·exact k5 _ _ at9 fun c eV hc=>fin c eV (by rw[hc,h];rfl)
   ·exact k5 _ _ at9 fun c eV hc=>fin c eV (by rw[hc,h];rfl)
 · simp only[Bool.not_eq_true]at hk;rw[hk];simp only[ck,S.EF,S.Iz,S.EG,S.EH,S.EI,aG,aA,Bool.false_eq_true,if_false];refine fin _ _ ?_;unfold ly;rw[hk];rfl
end
def rY(s:aS):Prop:=(s.locals.length:Int)≤s.lets∧s.lets≤41∧(s.aV=0→s.lets≤40)
theorem amZ{s:aS}{ok:Bool}{e:Int}(he:e≠0)(h:(s.cZ ok e).aV=0):s.aV=0∧ok=true:=by
 unfold aS.cZ at h;split at h
 ·exact absurd h he
 · rename_i hn;refine⟨h,?_⟩;cases ok with
   |true=>rfl
   |false=>exact absurd ⟨rfl,h⟩ hn
section
variable(vars:List aK)(kw:List UInt8→Bool)
theorem ZH(s:aS)(d:Int)(x:aC):gR s (gz vars kw s d x):=by
 unfold gz;split
 ·exact(jF _ _ _).trans ((jF _ _ _).trans (jF _ _ _))
 · split
   ·exact jF _ _ _
   · split
     ·exact S2 vars _ _ _ _
     ·exact gR.refl s
theorem alX{s:aS}{d:Int}{x:aC}(hk:x.kind=1)(h:(gz vars kw s d x).aV=0):s.lets<40:=by unfold gz at h;rw[if_pos hk]at h;have:=(amZ (by decide) h).2;exact of_decide_eq_true this
theorem amu{s:aS}{d:Int}{l:List aF}(h:(eH vars s d l).aV=0):s.aV=0:=by
 by_cases h0:s.aV=0
 ·exact h0
 ·rw[Hw vars h0]at h;exact absurd h h0
theorem al9{s:aS}{x:aC}(hk:x.kind≠1):gR s (lA s x):=by
 unfold lA;rw[if_neg hk];split
 ·exact(jF _ _ _).trans ((jF _ _ _).trans (jF _ _ _))
 ·exact gR.refl s
theorem aaz{s:aS}{d:Int}{x:aC}(h0:s.aV=0)(hi:rY s):rY (fm vars kw s d x)∧s.lets≤(fm vars kw s d x).lets∧s.locals.length≤(fm vars kw s d x).locals.length:=by
 obtain⟨i1,i2,i3⟩:=hi;have i4:=i3 h0;have s1:gR s (eH vars (gz vars kw (ib s d x) d x) d x.exprs):=(So s d x).trans ((ZH vars kw _ d x).trans (Mb vars _ _ _));unfold fm;by_cases hk:x.kind=1
 · have hl:(eH vars (gz vars kw (ib s d x) d x) d x.exprs).aV=0→s.lets<40:=by
     intro h;have:=alX vars kw hk (amu vars h);rw[(So s d x).2]at this;exact this
   generalize eH vars (gz vars kw (ib s d x) d x) d x.exprs=t at *;unfold lA;rw[if_pos hk];unfold aS.xk rY;simp only[List.length_append,List.length_singleton];obtain⟨s2,s3⟩:=s1;rw[s2,s3];have e:aR (s.lets+1)=s.lets+1:=wrap_i64 (by omega) (by omega);rw[e];refine⟨⟨by omega,by omega,fun k=>?_⟩,by omega,by omega⟩;have:=hl k;omega
 · have s2:=s1.trans (al9 (s:=eH vars (gz vars kw (ib s d x) d x) d x.exprs) hk);refine⟨⟨by rw[s2.1,s2.2];exact i1,by rw[s2.2];exact i2,fun _=>by rw[s2.2];exact i4⟩,by rw[s2.2];exact Int.le_refl _,by rw[s2.1];exact Nat.le_refl _⟩
mutual
theorem ade:∀(x:aC)(s:aS)(d:Int),s.aV=0→rY s→rY (stM vars kw s d x)∧s.lets≤(stM vars kw s d x).lets∧s.locals.length≤(stM vars kw s d x).locals.length
 | .mk kind line name cW order place exprs aZ bz,s,d,h0,hi=>by rw[stM];have h1:=aaz vars kw (d:=d) (x:= .mk kind line name cW order place exprs aZ bz) h0 hi;generalize fm vars kw s d (.mk kind line name cW order place exprs aZ bz)=s1 at *;have h2:=HD aZ s1 s1.locals.length (aR (d+1)) h1.1 (Nat.le_refl _);generalize iJ vars kw s1 s1.locals.length (aR (d+1)) aZ=s2 at *;have e1:(s2.at line).lets=s2.lets:=rfl;have e2:(s2.at line).locals.length=s2.locals.length:=rfl;have Yi:rY (s2.at line):=h2.1;generalize s2.at line=t at *;have h3:=HD bz t t.locals.length (aR (d+1)) Yi (Nat.le_refl _);exact⟨h3.1,by omega,by omega⟩
theorem HD:∀(l:List aC)(s:aS)(n:Nat)(d:Int),rY s→n≤s.locals.length→rY (iJ vars kw s n d l)∧s.lets≤(iJ vars kw s n d l).lets∧(iJ vars kw s n d l).locals.length=n
 | [],s,n,d,hi,hn=>by
  rw[iJ];obtain⟨i1,i2,i3⟩:=hi;have e:(s.back n).locals.length=n:=by show(s.locals.take n).length=n;rw[List.length_take];omega
  exact⟨⟨by rw[e];show(n:Int)≤s.lets;omega,i2,i3⟩,Int.le_refl _,e⟩
 | x :: r,s,n,d,hi,hn=>by
  rw[iJ];by_cases h0:s.aV=0
  · rw[if_neg (by simpa using h0)];have h1:=ade x (s.at x.line) d h0 hi;have e1:(s.at x.line).lets=s.lets:=rfl;have e2:(s.at x.line).locals=s.locals:=rfl;rw[e1,e2]at h1;have h2:=HD r (stM vars kw (s.at x.line) d x) n d h1.1 (by omega);exact⟨h2.1,by omega,h2.2.2⟩
  · rw[if_pos h0];exact HD r s n d hi hn
end
theorem alH{s:aS}{d:Int}{l:List aC}(hi:rY s):rY (gQ vars kw s d l)∧s.lets≤(gQ vars kw s d l).lets∧(gQ vars kw s d l).locals.length=s.locals.length:=HD vars kw l s _ d hi (Nat.le_refl _)
end
def Frame(id:Nat)(loc:AV)(H:AH)(tm:AV)(H':AH):Prop:=H.n≤H'.n∧(∀i o,i≠id→(∀n,loc ≠ .row i 0 n 1)→At H i o→At H' i o)∧∀j n,tm = .row j 0 n 1→(∃m,loc = .row j 0 m 1)∨H.n≤j
theorem Frame.of{id:Nat}{loc:AV}{H H':AH}(h:cM id H H'):Frame id loc H loc H':=⟨h.1,fun i o hi _ ho=>h.2 i o hi ho,fun j n e=> .inl ⟨n,e⟩⟩
theorem Frame.trans{id:Nat}{l0 l1 l2:AV}{a b c:AH}(h:Frame id l0 a l1 b)(k:Frame id l1 b l2 c):Frame id l0 a l2 c:=by
 refine⟨Nat.le_trans h.1 k.1,fun i o hi hn ho=>k.2.1 i o hi (fun n e=>?_) (h.2.1 i o hi hn ho),fun j n e=>?_⟩
 · rcases h.2.2 i n e with⟨m,e'⟩|sA
   ·exact hn m e'
   ·exact absurd ho.1 (by omega)
 · rcases k.2.2 j n e with⟨m,e'⟩|sA
   ·exact h.2.2 j m e'
   ·right;have:=h.1;omega
end Rb

namespace Rb
open Go
theorem aC.eS{x:aC}(h:x.ok):x.place.ok∧(x.exprs.length≤9223372036854775807∧∀e∈x.exprs,e.ok)∧(x.aZ.length≤9223372036854775807∧∀y∈x.aZ,y.ok)∧(x.bz.length≤9223372036854775807∧∀y∈x.bz,y.ok):=by
 rw[←Al];cases x with
 | mk kind line name cW order place exprs aZ bz=>obtain⟨_,_,_,_,_,h6,h7,h8,h9,nD,mW,ju⟩:=h;exact⟨h6,⟨h7,aF.iW.1 h8⟩,⟨h9,aC.iW.1 nD⟩,mW,aC.iW.1 ju⟩
theorem aC.ind{P:aC→Prop}(h:∀x:aC,(∀y∈x.aZ,P y)→(∀y∈x.bz,P y)→P x):∀x,P x:=by
 have main:∀(n:Nat)(x:aC),sizeOf x<n→P x:=by
  intro n;induction n with
  |zero=>intro x hx;omega
  | succ n ih=>
   intro x hx;refine h x (fun y hy=>ih _ ?_) fun y hy=>ih _ ?_
   · cases x with
     | mk kind line name cW order place exprs aZ bz=>have:=List.sizeOf_lt_of_mem hy;simp at this hx ⊢;omega
   · cases x with
     | mk kind line name cW order place exprs aZ bz=>have:=List.sizeOf_lt_of_mem hy;simp at this hx ⊢;omega
 exact fun x=>main _ x (Nat.lt_succ_self _)
theorem akH(cs:List AV)(n:Nat)(v:AV):setCells cs n [v]=cs.set n v:=rfl
theorem alZ{H:AH}{id:Nat}{loc:AV}{l:List (List UInt8)}{x:List UInt8}{cs0:List AV}(ef:At H id (.row cs0))(cx:mP H id loc l)(hb:l.length≤1000){K:ae}
  (hK:∀tm H',Frame id loc H tm H'→At H' id (.row cs0)→mP H' id tm (l++[x])→K tm H'):aJ (eF H true 1 16 loc (.aq .full 1 [.str x])) K:=by
 have hy:mM H 1 (.aq .full 1 [.str x])=some (1,[.str x]):=rfl;rcases cx with⟨rfl,rfl⟩|⟨j,cs,rfl,h2,h3,h4,h5⟩
 · refine⟨.row H.n 0 1 1,H.push (.row [.str x]),rfl,?_⟩;refine hK _ _ ⟨Nat.le_succ _,fun i o _ _ h=>h.push _,fun j n e=>?_⟩ (ef.push _) (.inr ⟨H.n,[.str x],rfl,Ne.symm ef.qR,At.new H _,Nat.le_refl _,rfl⟩);cases e;right;exact Nat.le_refl _
 · by_cases hc:l.length+1≤cs.length
   · refine ⟨.row j 0 (l.length+1) 1,H.set j (.row (setCells cs (l.length*1) [.str x])),?_,?_⟩
     · simp only[eF,hy,h3.2];simp only[List.all_cons,List.all_nil,AV.scalar,Bool.and_true,not_true_eq_false,if_false];rw[if_neg (by decide),if_neg (by simp only[Decidable.not_not];exact⟨trivial,trivial,by omega,by omega⟩),if_pos (by omega)]
     · rw [Nat.mul_one,akH];refine hK _ _ ⟨Nat.le_refl _,fun i o hi hn h=>h.dq (fun e=>hn l.length (by rw[e])) _,fun i n e=>?_⟩ (ef.dq (Ne.symm h2) _) (.inr ⟨j,cs.set l.length (.str x),by simp,h2,h3.set _,by simpa using hc,?_⟩)
       · cases e;left;exact⟨_,rfl⟩
       · rw[List.length_append,List.length_singleton,List.take_add_one,List.getElem?_set_self (by omega),List.take_set_of_le (by omega),h5];simp
   · have zC:cs.length=l.length:=by omega
     refine⟨.row H.n 0 (l.length+1) 1,(H.set j .gone).push (.row (cs++[.str x])),?_,?_⟩
     · simp only[eF,hy,h3.2];simp only[List.all_cons,List.all_nil,AV.scalar,Bool.and_true,not_true_eq_false,if_false];rw[if_neg (by decide),if_neg (by simp only[Decidable.not_not];exact⟨trivial,trivial,by omega,by omega⟩),if_neg (by omega),if_pos (by omega)]
     · refine hK _ _ ⟨by simp,fun i o hi hn h=>(h.dq (fun e=>hn l.length (by rw[e])) _).push _,fun i n e=>?_⟩ ((ef.dq (Ne.symm h2) _).push _) (.inr ⟨H.n,cs++[.str x],by simp,Ne.symm ef.qR,?_,by simp;omega,?_⟩)
       · cases e;right;exact Nat.le_refl _
       ·exact At.new (H.set j .gone) _
       · rw[List.length_append,List.length_singleton,List.take_of_length_le (by simp;omega)];rw[←zC,List.take_length]at h5;rw[h5];simp
def afV(C:Ctx)(id:Nat)(vars:List aK)(kw:List UInt8→Bool)(x:aC):Prop:=
 ∀ (s:aS) (d:Int) (loc:AV) (H:AH) (Q:ae),s.aV=0→rY s→At H id (.row (dw vars s loc))→mP H id loc s.locals →
  (∀H' tm,Frame id loc H tm H'→At H' id (.row (dw vars (stM vars kw s d x) tm))→mP H' id tm (stM vars kw s d x).locals→Q (.aM []) H')→au C K.f45 [.ptr id 0,.agg x.cells,.int .i64 d] H Q
section
variable{C:Ctx}(aw:dz C)(hT:Cl (au C) S.cH){id:Nat}{vars:List aK}{kw:List UInt8→Bool}
include aw hT
theorem anG(x:aC):cG (au C) K.f70 [.agg x.cells] (.bool (ly x)):=cG.of aw (by simp[AV.dD,AV.cD,aC.cD]) rfl fun Q hQ=>S.art hT (ajN hT hQ)
theorem Sq{l:List aC}(hl:l.length≤9223372036854775807)(hS:∀x∈l,afV C id vars kw x){s:aS}{d:Int}{loc:AV}{H:AH}{Q:ae}(hi:rY s)(ef:At H id (.row (dw vars s loc)))(cx:mP H id loc s.locals)
  (hQ:∀H' tm,Frame id loc H tm H'→At H' id (.row (dw vars (gQ vars kw s d l) tm))→mP H' id tm (gQ vars kw s d l).locals→Q (.aM []) H'):au C K.f27 [.ptr id 0,aQ aC.cells l,.int .i64 d] H Q:=by
 refine S.aqN hT ?_;unfold S.f27;simp only[bR,ab,aa,Nat.zero_add];rw[ef.load,show cC (dw vars s loc) 1 1 false=some loc from rfl];simp only[aa];have hlen:∀{H:AH}{lc:AV}{xs:List (List UInt8)},mP H id lc xs→br false lc=some (.int .i64 xs.length):=by
  intro H lc xs h;rcases h with⟨rfl,rfl⟩|⟨j,cs,rfl,_⟩
  ·rfl
  ·rfl
 rw[hlen cx];simp only[aa,cu];have main:∀(r:List aC)(i:Nat)(s':aS)(nQ:AV)(H1:AH),l.drop i=r→rY s'→s.locals.length≤s'.locals.length→Frame id loc H nQ H1→At H1 id (.row (dw vars s' nQ))→mP H1 id nQ s'.locals→iJ vars kw s' s.locals.length d r=gQ vars kw s d l →
   aB (S.Ig (au C) (.ptr id 0) (aQ aC.cells l) (.int .i64 d) (.int .i64 s.locals.length) (.int .i64 l.length) Q) ([.int .i64 i],H1):=by
  intro r;induction r with
  | nil =>
   intro i s' nQ H1 hd Dl AG hf ha yf he;have hle:=fe hd;refine aB.step ?_;simp only[S.Ig,aA,bF,aa,aD];rw[if_neg (by simp only[decide_eq_true_eq];omega)];simp only[aG,S.adQ,bR,ab,aa,Nat.zero_add];rw[ha.load,show cC (dw vars s' nQ) 1 1 false=some nQ from rfl];simp only[aa];rw[iJ]at he;have cut:∃vL,kO 1 nQ none (some (.int .i64 s.locals.length)) none=some vL∧Frame id nQ H1 vL H1∧(∀cs,At (H1.set id (.row cs)) id (.row cs)→mP (H1.set id (.row cs)) id vL (s'.locals.take s.locals.length))∧vL.known=true∧vL.cells=[vL]∧vL.scalar=true:=by
    rcases yf with⟨rfl,h⟩|⟨j,cs,rfl,h2,h3,h4,h5⟩
    · have h0:s.locals.length=0:=by rw[h]at AG;simpa using AG
      refine⟨.aq .nil 0 [],?_,⟨Nat.le_refl _,fun _ _ _ _ h=>h,fun _ _ e=>by cases e⟩,fun _ _=> .inl ⟨rfl,by rw[h];simp⟩,rfl,rfl,rfl⟩;rw[h0];rfl
    · refine ⟨.row j 0 s.locals.length 1,?_,⟨Nat.le_refl _,fun _ _ _ _ h=>h,fun i n e=>by cases e;exact .inl ⟨_,rfl⟩⟩,fun fI _=> .inr ⟨j,cs,?_,h2,h3.dq h2 _,?_,?_⟩,rfl,rfl,rfl⟩
      · simp only[kO,kH];rw[if_pos (by omega)];simp only[Option.map_none];rw[if_pos ⟨Nat.zero_le _,by omega,trivial⟩,if_pos (.inl trivial)];simp
      ·rw[List.length_take,Nat.min_eq_left AG]
      ·rw[List.length_take];omega
      ·rw[List.length_take,Nat.min_eq_left AG,List.map_take,←h5,List.take_take,Nat.min_eq_left AG]
   obtain⟨vL,e1,f2,l2,g1,g2,g3⟩:=cut;rw[e1];simp only[aa];rw[ha.store,if_pos ⟨g1,by rw[g2];rfl,by rw[g2];simp[g3],by simp[dw]⟩,g2];simp only[aa];have e2:setCells (dw vars s' nQ) 1 [vL]=dw vars (s'.back s.locals.length) vL:=rfl;rw[e2];refine hQ _ vL ((hf.trans f2).trans (Frame.of (cM.set id H1 _))) (by rw[←he];exact ha.set _) ?_;rw[←he];exact l2 _ (ha.set _)
  | cons x r ih=>
   intro i s' nQ H1 hd Dl AG hf ha yf he;obtain⟨aO,hx,bC⟩:=eX hd;have GA:=List.mem_of_getElem? hx;refine aB.step ?_;simp only[S.Ig,aA,bF,aa,aD];rw[if_pos (by simp only[decide_eq_true_eq];omega),d_ aO];simp only[aa];rw[gO aC.len (by decide) _ hx];simp only[aa,bw,be,if_true];rw[fC _ _ _ 10 x.len x.scalar rfl];simp only[aa,ab,Nat.zero_add];have sy:=ha.push (.row x.cells);have eZ:cM id H1 (H1.push (.row x.cells)):=cM.push id H1 (.row x.cells);have agk:=At.new H1 (.row x.cells);have bU:H1.n≠id:=Ne.symm ha.qR;have next:∀(s2:aS)(xB:AV)(H3:AH),rY s2→s.locals.length≤s2.locals.length→Frame id loc H xB H3→At H3 id (.row (dw vars s2 xB))→mP H3 id xB s2.locals→iJ vars kw s2 s.locals.length d r=gQ vars kw s d l →
     ak (S.Oi (au C) ([.int .i64 i],H1) (aB (S.Ig (au C) (.ptr id 0) (aQ aC.cells l) (.int .i64 d) (.int .i64 s.locals.length) (.int .i64 l.length) Q)) Q) [] H3:=by
    intro s2 xB H3 i3 wv f3 a3 l3 e3;simp only[aG,S.Oi,aA,cp,aa];rw[wrap_i64 (by omega) (by omega),show((i:Int)+1)=((i+1:Nat):Int) by simp];exact ih (i+1) s2 xB H3 bC i3 wv f3 a3 l3 e3
   rw[iJ]at he;generalize H1.push (.row x.cells)=H2 at *;generalize H1.n=ahp at *;refine S.BT hT (BS sy ?_);simp only[gk,aa,aD];refine aN (fun h=>?_) (fun h=>?_)
   · have h0:s'.aV=0:=by simpa using h
     rw[if_neg (by simpa using h0)]at he;have ll:J H2 1 false (.ptr ahp 1)=some (.int .i64 x.line):=by rw[agk.load,aC.bf,aT.bf];rfl
     simp only[ll,aa,bR];rw[sy.store,if_pos ⟨rfl,rfl,rfl,by simp[dw]⟩];simp only[aa];have e4:setCells (dw vars s' nQ) 3 (AV.int .i64 x.line).cells=dw vars (s'.at x.line) nQ:=rfl;rw[e4];have a4:At (H2.set id (.row (dw vars (s'.at x.line) nQ))) id (.row (dw vars (s'.at x.line) nQ)):=sy.set _;have k4:cM id H1 (H2.set id (.row (dw vars (s'.at x.line) nQ))):=eZ.trans (cM.set id H2 _);have awt:At (H2.set id (.row (dw vars (s'.at x.line) nQ))) ahp (.row x.cells):=agk.dq bU _;generalize H2.set id (.row (dw vars (s'.at x.line) nQ))=H3 at *;rw[awt.load,mK x.len];simp only[aa];have inv:=ade vars kw x (s'.at x.line) d h0 Dl;refine hS x GA (s'.at x.line) d nQ H3 _ h0 Dl a4 (yf.aY k4) fun H5 CA f5 a5 l5=>?_;exact next _ CA H5 inv.1 (Nat.le_trans AG inv.2.2) ((hf.trans (Frame.of k4)).trans f5) a5 l5 he
   · have h0:s'.aV≠0:=by simpa using h
     rw[if_pos h0]at he;exact next s' nQ H2 Dl AG (hf.trans (Frame.of eZ)) sy (yf.aY eZ) he
 exact main l 0 s loc H rfl hi (Nat.le_refl _) (Frame.of (cM.refl id H)) ef cx rfl
theorem am_(yg:vars.length≤maxLen)(hv:∀v∈vars,v.ok)(pV:∀x,cG (au C) K.f42 [.str x] (.bool (kw x))):∀x:aC,x.ok→afV C id vars kw x:=by
 refine aC.ind fun x YA ihE hx=>?_;obtain⟨gL,⟨fA,Yd⟩,⟨qI,htt⟩,wB,RG⟩:=aC.eS hx;have jM:=aT.eS gL;have agn:∀e:aF,e.ok→P1 C id vars e:=amt aw hT yg hv;intro s d loc H Q h0 hi ef cx hQ;have hb:s.locals.length≤1000:=by have:=hi.1;have:=hi.2.1;omega
 have agZ:=aaz vars kw (d:=d) (x:=x) h0 hi;rw[stM_eq]at hQ;refine S.aq4 hT ?_;unfold S.f45;simp only[Ao,bw,mL,aa];refine ou hT ef fun H1 k1 a1=>?_;simp only[afQ,aa];refine anG aw hT x _ _ ?_;refine ou hT a1 fun H2 k2 a2=>?_;simp only[ko,nr,Qz,aa];refine aaM aw hT _ _ _ _ ?_;refine ou hT a2 fun H3 k3 a3=>?_;have kk:=k1.trans (k2.trans k3);change At H3 id (.row (dw vars (ib s d x) loc))at a3;have lp:=So s d x;have tail:∀(xB:AV)(H4:AH),Frame id loc H xB H4→At H4 id (.row (dw vars (fm vars kw s d x) xB))→mP H4 id xB (fm vars kw s d x).locals→ak (S.Is (au C) (.ptr id 0) (.int .i64 d) (.av x.cells) Q) [] H4:=by intro xB H4 f4 a4 l4;generalize fm vars kw s d x=s3 at *;simp only[aG,S.Is,ko,Jf,aa,cp];have b1:=alH vars kw (d:=aR (d+1)) (l:=x.aZ) agZ.1;refine Sq aw hT qI (fun y hy=>YA y hy (htt y hy)) agZ.1 a4 l4 fun H5 CA f5 a5 l5=>?_;simp only[VQ,aa,bR,ab,Nat.zero_add];change At H5 id (.row (dw vars (gQ vars kw s3 (aR (d+1)) x.aZ) CA))at a5;generalize gQ vars kw s3 (aR (d+1)) x.aZ=s4 at *;rw[a5.store,if_pos ⟨rfl,rfl,rfl,by simp[dw]⟩];simp only[aa];have e4:setCells (dw vars s4 CA) 3 (AV.int .i64 x.line).cells=dw vars (s4.at x.line) CA:=rfl;rw[e4];simp only[aa,ko,QA];refine Sq aw hT wB (fun y hy=>ihE y hy (RG y hy)) (s:=s4.at x.line) b1.1 (a5.set _) (l5.aY (cM.set id H5 _)) fun H6 ri f6 a6 l6=>?_;exact hQ H6 ri (((f4.trans f5).trans (Frame.of (cM.set id H5 _))).trans f6) a6 l6
 have qK:∀(H4:AH),cM id H H4→At H4 id (.row (dw vars (gz vars kw (ib s d x) d x) loc))→ak (S.EC (au C) (.ptr id 0) (.int .i64 d) (.av x.cells) Q) [] H4:=by
  intro H4 k4 a4;have wM:=lp.trans (ZH vars kw (ib s d x) d x);simp only[aG,S.EC,ko,yO,aa];refine Z3 aw hT fA (fun e he=>agn e (Yd e he)) a4 ((cx.aY k4).still wM) (by rw[wM.1];exact hb) fun H5 k5 a5=>?_;have G7:=wM.trans (Mb vars x.exprs (gz vars kw (ib s d x) d x) d);have uc:=k4.trans k5;have yL:fm vars kw s d x=lA (eH vars (gz vars kw (ib s d x) d x) d x.exprs) x:=rfl;rw[yL]at tail;generalize eH vars (gz vars kw (ib s d x) d x) d x.exprs=s4 at *;simp only[nr,aa,cn,aD];refine aN (fun h=>?_) (fun h=>?_)
  · have ij:x.kind=1:=by simpa using h
    have er:lA s4 x=s4.xk x.name:=by unfold lA;rw[if_pos ij]
    rw[er]at tail;simp only[bR,ab,aa,Nat.zero_add];rw[a5.load,show cC (dw vars s4 loc) 1 1 false=some loc from rfl];simp only[aa,ko,yN];rw[show fb H5 false 1 1 [.str []] [(0,1,.str x.name)]=some (.aq .full 1 [.str x.name],H5)from rfl];simp only[bw];refine alZ a5 ((cx.aY uc).still G7) (by rw[G7.1];exact hb) fun ri H6 f6 a6 l6=>?_;have kn:ri.known=true∧ri.cells=[ri]∧ri.scalar=true:=by
     rcases l6 with⟨rfl,_⟩|⟨j,cs,rfl,_⟩
     ·exact⟨rfl,rfl,rfl⟩
     ·exact⟨rfl,rfl,rfl⟩
    rw[a6.store,if_pos ⟨kn.1,by rw[kn.2.1];rfl,by rw[kn.2.1];simp[kn.2.2],by simp[dw]⟩,kn.2.1];simp only[aa];have e7:setCells (dw vars s4 loc) 1 [ri]=dw vars s4 ri:=rfl;rw[e7];have a7:At (H6.set id (.row (dw vars s4 ri))) id (.row (dw vars s4 ri)):=a6.set _;have k7:cM id H6 (H6.set id (.row (dw vars s4 ri))):=cM.set id H6 _;generalize H6.set id (.row (dw vars s4 ri))=H7 at *;rw[a7.load,show cC (dw vars s4 ri) 2 1 false=some (.int .i64 s4.lets)from rfl];simp only[aa,cp];rw[a7.store,if_pos ⟨rfl,rfl,rfl,by simp[dw]⟩];simp only[aa];have k8:=k7.trans (cM.set id H7 (.row (setCells (dw vars s4 ri) 2 (AV.int .i64 (IntKind.wrap .i64 (s4.lets+1))).cells)));exact tail ri _ (((Frame.of uc).trans f6).trans (Frame.of k8)) (a7.set _) (l6.aY k8)
  · have ij:x.kind≠1:=by simpa using h
    refine aN (fun h5=>?_) (fun h5=>?_)
    · have tW:x.kind=5:=by simpa using h5
      have er:lA s4 x=((s4.cZ (s4.has x.name) 6).cZ ((s4.cZ (s4.has x.name) 6).has x.cW) 6).cZ (!(x.name==x.cW)) 7:=by
       unfold lA;rw[if_neg ij,if_pos tW];have:(s4.cZ (s4.has x.name) 6).has x.cW=s4.has x.cW:=by unfold aS.has;rw[(jF s4 _ _).1]
       rw[this]
      rw[er]at tail;simp only[yN,Qy,aa];refine Hu hT a5 ((cx.aY uc).still G7) (by rw[G7.1];exact hb) ?_;refine ou hT a5 fun H6 k6 a6=>?_;have Y9:=G7.trans (jF s4 (s4.has x.name) 6);refine Hu hT a6 ((cx.aY (uc.trans k6)).still Y9) (by rw[Y9.1];exact hb) ?_;refine ou hT a6 fun H7 k7 a7=>?_;simp only[yw,aa];refine ou hT a7 fun H8 k8 a8=>?_;have k9:=uc.trans (k6.trans (k7.trans k8));refine tail loc H8 (Frame.of k9) a8 ((cx.aY k9).still (Y9.trans ((jF _ _ _).trans (jF _ _ _))))
    · have tW:x.kind≠5:=by simpa using h5
      have er:lA s4 x=s4:=by unfold lA;rw[if_neg ij,if_neg tW]
      rw[er]at tail;exact tail loc H5 (Frame.of uc) a5 ((cx.aY uc).still G7)
 have Yg:gz vars kw (ib s d x) d x=gz vars kw (ib s d x) d x:=rfl
 conv at Yg=>rhs;unfold gz
 rw[Yg]at qK;clear Yg;generalize ib s d x=s1 at *;simp only[nr,aa,cn,aD];refine aN (fun h=>?_) (fun h=>?_)
 · rw [if_pos (by simpa using h)]at qK;have k3':∀(b:Bool)(H4:AH),b=(gH x.name&&!kw x.name)→cM id H H4→At H4 id (.row (dw vars (s1.cZ b 6) loc))→ak (S.OW (au C) (.ptr id 0) (.int .i64 d) (.av x.cells) Q) [] H4:=by
    intro b H4 qE k4 a4;rw[←qE]at qK;have wM:=lp.trans (jF s1 b 6);have awy:(s1.cZ b 6).has x.name=s1.has x.name:=by unfold aS.has;rw[(jF s1 b 6).1]
    have auL:((s1.cZ b 6).cZ (!s1.has x.name) 7).lets=s1.lets:=((jF s1 b 6).trans (jF _ _ _)).2;simp only[aG,S.OW,ko,yN,aa];refine Hu hT a4 ((cx.aY k4).still wM) (by rw[wM.1];exact hb) ?_;rw[awy];simp only[gk,aa];refine ou hT a4 fun H5 k5 a5=>?_;simp only[bR,ab,aa,Nat.zero_add];rw[a5.load,show cC (dw vars ((s1.cZ b 6).cZ (!s1.has x.name) 7) loc) 2 1 false=some (.int .i64 ((s1.cZ b 6).cZ (!s1.has x.name) 7).lets)from rfl,auL];simp only[aa,bF];refine ou hT a5 fun H6 k6 a6=>?_;exact qK H6 (k4.trans (k5.trans k6)) a6
   simp only[yN,aa];refine Sd aw hT x.name _ _ ?_;simp only[ck];refine ite_bool (fun hn=>?_) (fun hn=>?_)
   · refine pV x.name _ _ ?_;simp only[gk,aa];refine ou hT a3 fun H4 k4 a4=>?_;exact k3' _ H4 (by rw[hn];rfl) (kk.trans k4) a4
   · refine ou hT a3 fun H4 k4 a4=>?_;exact k3' _ H4 (by rw[hn];rfl) (kk.trans k4) a4
 · rw [if_neg (by simpa using h)]at qK;refine aN (fun h2=>?_) (fun h2=>?_)
   · rw[if_pos (by simpa using h2)]at qK;simp only[yN,aa];refine Hu hT a3 ((cx.aY kk).still lp) (by rw[lp.1];exact hb) ?_;refine ou hT a3 fun H4 k4 a4=>?_;exact qK H4 (kk.trans k4) a4
   · rw [if_neg (by simpa using h2)]at qK;have DC:∀b:Bool,(b=true↔(x.kind=3∨x.kind=4∨x.kind=5∨x.kind=6))→ak (S.ED (au C) (.ptr id 0) (.int .i64 d) (.av x.cells) Q) [.bool b] H3:=by
      intro b qE;simp only[aG,S.ED,aA,aD,ko,nr,Av,aa];refine aN (fun h=>?_) (fun h=>?_)
      · rw[if_pos (qE.1 h)]at qK;refine ZA aw hT yg hv gL (fun p hp i hi=>agn i ((jM.2 p hp).2 i hi)) a3 ((cx.aY kk).still lp) (by rw[lp.1];exact hb) fun H' k' a'=>?_;exact qK H' (kk.trans k') a'
      · rw[if_neg fun y=>h (qE.2 y)]at qK;exact qK H3 kk a3
     refine aN (fun h3=>?_) (fun h3=>?_)
     · refine DC _ ?_;simp only[beq_iff_eq]at h3;simp[h3]
     · refine aN (fun h4=>?_) (fun h4=>?_)
       · refine DC _ ?_;simp only[beq_iff_eq]at h4;simp[h4]
       · refine aN (fun h5=>?_) (fun h5=>?_)
         · refine DC _ ?_;simp only[beq_iff_eq]at h5;simp[h5]
         · refine DC _ ?_;simp only[beq_iff_eq]at h3 h4 h5;simp[h3,h4,h5]
end
end Rb

namespace Rb
open Go
theorem HU{n step:Int}(h1:0≤n)(h2:n≤1000000000)(h3:1≤step)(h4:step≤1000000):n≤dX n step∧dX n step≤n+step-1:=by rw[auu h1 h2 h3 h4];have h5:=Int.mul_ediv_add_emod (n+step-1) step;have h6:=Int.emod_lt_of_pos (n+step-1) (show 0<step by omega);have h7:=Int.emod_nonneg (n+step-1) (show step≠0 by omega);rw[Int.mul_comm]at h5;omega
def JA(k:Int)(p:PL):Prop:=0≤p.bit∧p.bit≤k*1000000∧0≤p.size∧p.size≤k*1000000∧1≤p.align∧p.align≤16
theorem agF{n:Int}(h1:0≤n)(h2:n≤1000000000):aR (n.tdiv 8)=n/8:=by rw[Int.tdiv_eq_ediv_of_nonneg h1];exact wrap_i64 (by omega) (by omega)
theorem S1{k:Int}{p:PL}(h1:0≤p.bit)(h2:p.bit≤(k+1)*1000000)(h3:0≤p.size)(h4:p.size≤k*1000000)(h5:1≤p.align)(h6:p.align≤16)(hk:0≤k)(eZ:k≤40):JA (k+1) (xp p):=by
 obtain⟨a,b⟩:=HU (n:=p.bit) (step:=8) h1 (by omega) (by omega) (by omega);have e:aR ((dX p.bit 8).tdiv 8)=dX p.bit 8/8:=agF (by omega) (by omega);refine⟨h1,h2,?_,?_,h5,h6⟩
 · show 0≤max p.size _;omega
 · show max p.size (aR ((dX p.bit 8).tdiv 8))≤_;rw[e];omega
theorem alT{k:Int}{packed:Bool}{kind:Int}{seen:List (List UInt8)}{p:PL}{f:aP}{g:Int×Int}(hp:JA k p)(hk:0≤k)(eZ:k≤40)(hs:mT packed seen f=0)(h1:0≤g.1)(h2:g.1≤65536)(h3:1≤g.2)(h4:g.2≤16):JA (k+1) (o_ packed kind p f g):=by
 obtain⟨b1,b2,s1,s2,a1,a2⟩:=hp;have hb:f.bits=true→(f.type.size=1∨f.type.size=2∨f.type.size=4∨f.type.size=8)∧0≤f.width∧f.width≤64:=by
  intro du;rw[wY]at hs;split at hs
  ·cases hs
  split at hs
  ·cases hs
  split at hs
  ·rename_i hz;exact absurd hs hz
  rename_i hz;split at hs
  ·cases hs
  rename_i hn;split at hs
  ·cases hs
  rename_i hw;have ij:f.type.kind=1:=by
   by_cases hk:f.type.kind=1
   ·exact hk
   ·exact absurd (.inr ⟨du,.inl hk⟩) hn
  have h0:ed f.type=0:=by simpa using hz
  have gN:f.type.size=1∨f.type.size=2∨f.type.size=4∨f.type.size=8:=by
   rw[m9,ij]at h0;split at h0
   ·cases h0
   · simp only[if_true]at h0;split at h0
     · rename_i hp;simp[gJ]at hp;omega
     ·cases h0
  have u_:¬f.width<0∧¬8*f.type.size<f.width:=⟨fun h=>hw ⟨du,.inl h⟩,fun h=>hw ⟨du,.inr (.inl h)⟩⟩
  exact⟨gN,by omega,by omega⟩
 have ago:1≤jV packed f g.2∧jV packed f g.2≤16:=by
  unfold jV;split
  ·omega
  · split
    · rename_i du;have:=hb du;omega
    ·omega
 unfold o_;simp only;generalize lN:({p with align:=max p.align (jV packed f g.2),bit:=if kind=4 then 0 else p.bit}:PL)=p1;have c1:0≤p1.bit:=by rw[←lN];show 0≤(if kind=4 then 0 else p.bit);split<;>omega
 have c2:p1.bit≤k*1000000:=by rw[←lN];show(if kind=4 then 0 else p.bit)≤_;split<;>omega
 have c3:p1.size=p.size:=by rw[←lN]
 have c4:1≤p1.align∧p1.align≤16:=by rw[←lN];show 1≤max p.align _∧max p.align _≤16;omega
 by_cases du:f.bits=true
 · rw [if_pos du];obtain⟨gN,w1,w2⟩:=hb du;have e8:aR (8*f.type.size)=8*f.type.size:=wrap_i64 (by omega) (by omega);obtain⟨u1,u2⟩:=HU (n:=p1.bit) (step:=8*f.type.size) c1 (by omega) (by omega) (by omega);unfold xi;split
   · refine S1 ?_ ?_ ?_ ?_ ?_ ?_ hk eZ
     ·show 0≤dX p1.bit (aR (8*f.type.size));rw[e8];omega
     ·show dX p1.bit (aR (8*f.type.size))≤_;rw[e8];omega
     ·show 0≤p1.size;omega
     ·show p1.size≤_;omega
     ·exact c4.1
     ·exact c4.2
   · have o1:p1.bit≤ph p1 f∧ph p1 f≤p1.bit+63:=by
       unfold ph;rw[e8];split<;>omega
     have e9:aR (ph p1 f+f.width)=ph p1 f+f.width:=wrap_i64 (by omega) (by omega);refine S1 ?_ ?_ ?_ ?_ ?_ ?_ hk eZ
     ·show 0≤aR (ph p1 f+f.width);rw[e9];omega
     ·show aR (ph p1 f+f.width)≤_;rw[e9];omega
     ·show 0≤p1.size;omega
     ·show p1.size≤_;omega
     ·exact c4.1
     ·exact c4.2
 · rw[if_neg du];unfold PQ;obtain⟨u1,u2⟩:=HU (n:=p1.bit) (step:=8) c1 (by omega) (by omega) (by omega);have e1:aR ((dX p1.bit 8).tdiv 8)=dX p1.bit 8/8:=agF (by omega) (by omega);obtain⟨v1,v2⟩:=HU (n:=dX p1.bit 8/8) (step:=jV packed f g.2) (by omega) (by omega) ago.1 (by omega);have e2:aR (dX (dX p1.bit 8/8) (jV packed f g.2)+g.1)=dX (dX p1.bit 8/8) (jV packed f g.2)+g.1:=wrap_i64 (by omega) (by omega);have e3:aR (8*(dX (dX p1.bit 8/8) (jV packed f g.2)+g.1))=8*(dX (dX p1.bit 8/8) (jV packed f g.2)+g.1):=wrap_i64 (by omega) (by omega);rw[e1,e2,e3];refine S1 ?_ ?_ ?_ ?_ ?_ ?_ hk eZ
   ·show 0≤8*(dX (dX p1.bit 8/8) (jV packed f g.2)+g.1);omega
   ·show 8*(dX (dX p1.bit 8/8) (jV packed f g.2)+g.1)≤_;omega
   ·show 0≤p1.size;omega
   ·show p1.size≤_;omega
   ·exact c4.1
   ·exact c4.2
theorem ZQ{packed:Bool}{kind:Int}:∀{l:List aP}{seen:List (List UInt8)}{k:Int}{p q:PL},JA k p→0≤k→k+l.length≤40→kU packed seen l=0 →
  (∀f∈l,ed f.type=0→(bh f.type).2=true→0≤(bh f.type).1.1∧(bh f.type).1.1≤65536∧1≤(bh f.type).1.2∧(bh f.type).1.2≤16)→gY packed kind p l=some q→JA 40 q
 | [],seen,k,p,q,hp,hk,eZ,_,_,h=>by simp only[gY,Option.some.injEq]at h;subst h;obtain⟨b1,b2,s1,s2,a1,a2⟩:=hp;simp at eZ;exact⟨b1,by omega,s1,by omega,a1,a2⟩
 | f :: r,seen,k,p,q,hp,hk,eZ,hs,hf,h=>by
  simp only[gY]at h;split at h
  · rename_i jx;rw[EL]at jx h;have yk:mT packed seen f=0∧kU packed (seen++[f.name]) r=0:=by
     simp only[kU]at hs;by_cases hz:mT packed seen f=0
     ·rw[if_neg (by simpa using hz)]at hs;exact⟨hz,hs⟩
     ·rw[if_pos hz]at hs;exact absurd hs hz
    have aX:ed f.type=0:=Bv hs f (by simp);obtain⟨g1,g2,g3,g4⟩:=hf f (by simp) aX jx;simp only[List.length_cons]at eZ;exact ZQ (k:=k+1) (alT hp hk (by omega) yk.1 g1 g2 g3 g4) (by omega) (by omega) yk.2 (fun f' hf'=>hf f' (by simp[hf'])) h
  ·cases h
theorem aqb : ∀t:aE,ed t=0→(bh t).2=true→0≤(bh t).1.1∧(bh t).1.1≤65536∧1≤(bh t).1.2∧(bh t).1.2≤16:=by
 refine aE.ind fun t mH k_ hs h=>?_;rw[vr]at h ⊢;split at h
 · rename_i ju;rw[if_pos ju];rw[m9]at hs;split at hs
   ·cases hs
   · have hp:gJ t.size 8=true∨gJ t.size 16=true:=by
       rcases ju with h1|h1
       · rw[if_pos h1]at hs;split at hs
         ·exact .inl ‹_›
         ·cases hs
       · rw[if_neg (by omega),if_pos h1]at hs;split at hs
         ·exact .inr ‹_›
         ·cases hs
     show 0≤t.size∧t.size≤65536∧1≤t.size∧t.size≤16;rcases hp with hp|hp<;>(simp[gJ]at hp;omega)
 · rename_i ju;rw[if_neg ju];split at h
   · rename_i h5;rw[if_pos h5];obtain⟨e,he,Bb⟩:=wZ hs h5;have hc:1≤t.count∧t.count≤65536:=by
      rw[m9,h5]at hs;split at hs
      ·cases hs
      · simp at hs;split at hs
        ·cases hs
        ·omega
     rw[he]at h ⊢;simp only[ue,Bool.and_eq_true]at h ⊢;obtain⟨h,hle⟩:=h;have hle:=of_decide_eq_true hle;obtain⟨g1,g2,g3,g4⟩:=k_ e (by rw[he];simp) Bb h;have hm:0≤(bh e).1.1*t.count:=Int.mul_nonneg g1 (by omega);have hm2:(bh e).1.1*t.count≤65536*65536:=Int.mul_le_mul g2 hc.2 (by omega) (by omega);have e1:aR ((bh e).1.1*t.count)=(bh e).1.1*t.count:=wrap_i64 (by omega) (by omega);rw[e1]at hle ⊢;exact⟨hm,hle,g3,g4⟩
   · rename_i h5;rw[if_neg h5];cases hp:gY t.packed t.kind ⟨0,1,[],0⟩ t.fields with
     |none=>rw[hp]at h;cases h
     | some p =>
      rw[hp]at h;simp only[decide_eq_true_eq]at h ⊢;have hg:t.kind=3∨t.kind=4:=by rcases DY hs with h|h|h|h|h<;>omega
      have mX : kU t.packed [] t.fields=0:=by
       rw[m9]at hs;split at hs
       ·cases hs
       · rw [if_neg (by omega),if_neg (by omega),if_neg (by omega)]at hs;first
          |exact hs
          | (split at hs
             ·cases hs
             ·exact hs)
      obtain⟨b1,b2,s1,s2,a1,a2⟩:=ZQ (k:=0) (p:=⟨0,1,[],0⟩) ⟨by decide,by decide,by decide,by decide,by decide,by decide⟩ (by omega) (by have:=(Ae hs hg).2;omega) mX (fun f hf=>mH f hf) hp;obtain⟨u1,u2⟩:=HU (n:=p.size) (step:=p.align) s1 (by omega) a1 (by omega);exact⟨by omega,h,a1,a2⟩
theorem anP{t:aE}(h:(cd t).2=0):0≤(cd t).1.1∧(cd t).1.1≤65536∧1≤(cd t).1.2∧(cd t).1.2≤16:=by
 unfold cd at h ⊢;split at h
 ·rename_i hs;exact absurd h hs
 · rename_i hs;split at h
   ·cases h
   · rename_i ht;split at h
     ·cases h
     · rename_i ho;rw[if_neg hs,if_neg ht,if_neg ho];exact aqb t (sW (by simpa using hs)) (by simpa using ho)
def z5:List UInt8:=[122,122,122,122,122]
def Ra(a b:aS):Prop:=a=b∨a.aV=6
theorem Ra.refl(a:aS):Ra a a:= .inl rfl
theorem Ra.bad{a b:aS}(h:a.aV=6):Ra a b:= .inr h
section
variable(vars:List aK)(z:aK)
variable(kw:List UInt8→Bool)
end
end Rb

namespace Rb
open Go
theorem anj(a b:List AV):AV.lZ (a++b)=AV.lZ a++AV.lZ b:=by rw[DT,DT,DT,List.map_append]
section
variable{Φ:aj}{H:AH}{Q:ae}
theorem akg(hT:Cl Φ S.cH){p:aK→Bool}{key:Nat}{cA:List AV}{xs:List aK}(hf:∀x∈xs,∀(R:ae),R (.bool (p x)) H→Φ key ([.agg x.cells]++cA) H R)(hl:xs.length≤9223372036854775807)
  (hQ:Q (.bool (xs.any p)) H) (A9:ny key=none:=by first|assumption|rfl):Φ K.f43 [aQ aK.cells xs,.fn key cA] H Q:=by
 refine S.aq2 hT ?_;unfold S.f43;refine S.Uo hT (Ti hf hl ?_);simp only[kG,aa,MA];exact hQ
theorem aqp{w:aK}{id:Nat}{v:aK}(ef:At H id (.row v.cells))(hQ:Q (.bool (w.name==v.name)) H):S.f44 Φ (.agg w.cells) (.ptr id 0) H Q:=by
 unfold S.f44;have hb:bB H false 7 (.agg w.cells)=some (.av w.cells,H):=by unfold bB;rw[if_pos ⟨rfl,w.len⟩];rfl
 have l0:J H 1 false (.av (w.cells.drop 0))=some (.str w.name):=Ji w;have l1:J H 1 false (.ptr id 0)=some (.str v.name):=by rw[ef.load];exact Ji v
 rw[hb];simp only[bw,ab,aa,l0,Nat.add_zero,l1,lq];exact hQ
end
section
variable{C:Ctx}(aw:dz C)(hT:Cl (au C) S.cH){kw:List UInt8→Bool}(pV:∀x,cG (au C) K.f42 [.str x] (.bool (kw x)))
include aw hT pV
theorem anh{vars:List aK}(hv:∀v∈vars,v.ok){H:AH}{Q:ae}(hQ:∀H',Q (.int .i64 (q_ kw vars)) H'):S.f26 (au C) (aQ aK.cells vars) H Q:=by
 have fin:∀z H',z=q_ kw vars→Q (.int .i64 z) H':=fun z H' h=>by rw[h];exact hQ H'
 clear hQ;unfold S.f26;simp only[cu,aa,eY,aD];unfold q_ at fin;refine aN (fun h=>?_) (fun h=>?_)
 ·exact fin _ _ (by rw[if_pos (by simp only[decide_eq_true_eq,gt_iff_lt]at h;omega)])
 · have hl : vars.length≤32:=by simp only[decide_eq_true_eq,gt_iff_lt]at h;omega
   rw[if_neg (by omega)]at fin;have main:∀(r:List aK)(i:Nat)(a:Int)(H1:AH),vars.drop i=r→xr kw ((vars.take i).map aK.name) a r=xr kw [] 0 vars →
     aB (S.Ew (au C) (aQ aK.cells vars) (.int .i64 vars.length) Q) ([.int .i64 a,.int .i64 i],H1):=by
    intro r;induction r with
    | nil=>
     intro i a H1 hd he;have hle:=fe hd;refine aB.step ?_;simp only[S.Ew,aA,cv,bF,aa,aD];rw[if_neg (by simp only[decide_eq_true_eq];omega)];simp only[aG,S.adP,aA,eY,aa,aD];rw[xr]at he;refine aN (fun h=>?_) (fun h=>?_)
     ·exact fin _ _ (by rw[←he,if_pos (by simpa using h)])
     ·exact fin _ _ (by rw[←he,if_neg (by simpa using h)])
    | cons v r ih=>
     intro i a H1 hd he;obtain⟨aO,hx,bC⟩:=eX hd;have rF:=List.mem_of_getElem? hx;refine aB.step ?_;simp only[S.Ew,aA,cv,bF,aa,aD];rw[if_pos (by simp only[decide_eq_true_eq];omega),d_ aO];simp only[aa];rw[gO aK.len (by decide) _ hx];simp only[aa,bw,be,if_true];rw[fC _ _ _ 7 v.len v.scalar rfl];simp only[aa,ab,Nat.zero_add,Nat.add_zero];have JE:=At.new H1 (.row v.cells);generalize H1.push (.row v.cells)=H2 at *;generalize H1.n=JO at *;have l0:J H2 1 false (.ptr JO 0)=some (.str v.name):=by rw[JE.load];exact Ji v
     have l1:J H2 6 true (.ptr JO 1)=some (.agg v.type.cells):=by rw[JE.load,ajY (by rw[v.len];omega)];show cC (v.cells.drop 1) 0 6 true=_;exact mK v.type.len
     simp only[l0,aa];rw[xr]at he;have k2:¬(gH v.name=false∨kw v.name=true)→¬((vars.take i).map aK.name).contains v.name=true →
       ak (S.Uz (au C) (.ptr JO 0) ([.int .i64 a,.int .i64 i],H1) (aB (S.Ew (au C) (aQ aK.cells vars) (.int .i64 vars.length) Q)) Q) [] H2:=by
      intro n1 n2;rw[if_neg n1,if_neg n2]at he;simp only[aG,S.Uz,ab,Nat.zero_add,aa,l1];refine R8 aw hT v.type (hv v rF).2 _ _ ?_;simp only[db,List.getElem?_cons_zero,List.getElem?_cons_succ,aa,eK,aD];refine aN (fun h=>?_) (fun h=>?_)
      · rw[if_pos (by simpa using h)]at he;exact fin _ _ he
      · have h0:(cd v.type).2=0:=by simpa using h
        rw[if_neg (by simpa using h0)]at he;have hb:=anP h0;simp only[aA,cp,nM,m7,aa];rw[wQ _ _ _ (by omega)];simp only[aa,m7,cp,aG,S.adO,aA,cv];rw[wrap_i64 (n:=(i:Int)+1) (by omega) (by omega),show((i:Int)+1)=((i+1:Nat):Int) by simp];refine ih (i+1) _ H2 bC ?_;rw[←he,List.take_add_one,hx];simp[dX]
     have k3:∀b:Bool,(b=true↔(gH v.name=false∨kw v.name=true))→ak (S.Oh (au C) (aQ aK.cells vars) (.ptr JO 0) ([.int .i64 a,.int .i64 i],H1) (aB (S.Ew (au C) (aQ aK.cells vars) (.int .i64 vars.length) Q)) Q) [.bool b] H2:=by
      intro b hb;simp only[aG,S.Oh,aA,cv,aD];refine aN (fun h=>?_) (fun h=>?_)
      · rw[if_pos (hb.1 h)]at he;exact fin _ _ he
      · have n1:¬(gH v.name=false∨kw v.name=true):=fun y=>h (hb.2 y);rw[aal aK.len (Nat.le_of_lt aO)];simp only[aa];refine akg hT (p:=fun w=>w.name==v.name) (fun w _ R hR=>S.aq3 hT (aqp JE hR)) (by rw[List.length_take];omega) ?_;simp only[aD];have hc:((vars.take i).any fun w=>w.name==v.name)=true↔((vars.take i).map aK.name).contains v.name=true:=by
         rw[List.any_eq_true,List.contains_iff_mem,List.mem_map];simp only[beq_iff_eq]
        refine aN (fun h=>?_) (fun h=>?_)
        · rw[if_neg n1,if_pos (hc.1 h)]at he;exact fin _ _ he
        ·exact k2 n1 fun y=>h (hc.2 y)
     refine Sd aw hT v.name _ _ ?_;simp only[gk,aa,cj];refine gG (fun h=>?_) (fun h=>?_)
     · simp only[l0,aa];refine pV v.name _ _ ?_;refine k3 _ ?_;simp only[Bool.not_eq_false']at h;simp[h]
     · refine k3 _ ?_;simp only[Bool.not_eq_true']at h;simp[h]
   exact main vars 0 0 H rfl rfl
def Qt(r:Int×Int):AV:= .agg [.int .i64 r.1,.int .i64 r.2]
theorem an7(p:jT)(hp:p.ok):cG (au C) K.f10 [.agg p.cells] (Qt (jk kw p)):=by
 obtain⟨⟨pY,hv⟩,qI,ht⟩:=hp;refine cG.of aw (by simp[AV.dD,AV.cD,jT.cD]) rfl fun Q hQ=>S.aqB hT ?_;have fin:∀(a b:Int) H',(a,b)=jk kw p→Q (.agg [.int .i64 a,.int .i64 b]) H':=fun a b H' h=>by have:=hQ H';rw[←h]at this;exact this
 clear hQ;have Cw:bB AH.mt false 2 (.agg p.cells)=some (.av p.cells,AH.mt):=by unfold bB;rw[if_pos ⟨rfl,rfl⟩];rfl
 have vc:∀H,J H 1 false (.av (p.cells.drop 0))=some (aQ aK.cells p.vars):=fun _=>rfl;have rK:∀H,J H 1 false (.av (p.cells.drop 1))=some (aQ oW p.threads):=fun _=>rfl;unfold S.f10;simp only[Cw,bw,be,if_true,ab,aa,vc,cu,eY,cj];generalize hH0:AH.mt=H0;have we:=At.new H0 (.row [.int .i64 0,.int .i64 0]);generalize H0.push (.row [.int .i64 0,.int .i64 0])=H4 at *;generalize H0.n=dK at *;have out:∀(a b:Int)(H1:AH),At H1 dK (.row [.int .i64 0,.int .i64 0])→(a,b)=jk kw p→Do (aH H1 2 (.ptr dK 0) (.agg [.int .i64 a,.int .i64 b])) fun H2=>Do (J H2 2 true (.ptr dK 0)) fun x=>Q x H2:=by intro a b H1 ha he;rw[ha.put (n:=2) rfl rfl rfl];simp only[aa];rw[(ha.set _).all (n:=2) rfl];simp only[aa];exact fin a b _ he
 unfold jk at out;have k3 : ¬(32<p.vars.length∨p.threads.length<1∨8<p.threads.length)→ak (S.Uv (au C) (.av p.cells) (.ptr dK 0) Q) [] H4:=by
  intro hn;rw[if_neg hn]at out;simp only[aG,S.Uv,ab,aa,vc];refine cG.of aw (by simp[AV.dD,zZ aK.cD]) rfl (fun Q' hQ'=>S.aqM hT (anh aw hT pV hv hQ')) _ _ ?_;simp only[eK,aa,aD];refine aN (fun h=>?_) (fun h=>?_)
  · rw[if_pos (by simpa using h)]at out;rw[show bJ [.int .i64 0,.int .i64 0] [(1,1,.int .i64 (q_ kw p.vars))]=some (.agg [.int .i64 0,.int .i64 (q_ kw p.vars)])from rfl];simp only[aa];exact out 0 _ H4 we rfl
  · rw [if_neg (by simpa using h)]at out;simp only[rK,aa,cu];have main:∀(r:List (List aC)) (i:Nat) (H1:AH),p.threads.drop i=r→At H1 dK (.row [.int .i64 0,.int .i64 0])→vx kw p.vars r=vx kw p.vars p.threads →
      aB (S.NZ (au C) (.av p.cells) (.ptr dK 0) (aQ oW p.threads) (.int .i64 p.threads.length) Q) ([.int .i64 i],H1):=by
     intro r;induction r with
     | nil=>intro i H1 hd ha he;have hle:=fe hd;refine aB.step ?_;simp only[S.NZ,aA,bF,aa,aD];rw[if_neg (by simp only[decide_eq_true_eq];omega)];simp only[aG,S.adF];rw[show bJ [.int .i64 0,.int .i64 0] []=some (.agg [.int .i64 0,.int .i64 0])from rfl];simp only[aa];exact out 0 0 H1 ha he
     | cons t r ih=>
      intro i H1 hd ha he;obtain⟨aO,hx,bC⟩:=eX hd;obtain⟨FJ,yo⟩:=ht t (List.mem_of_getElem? hx);refine aB.step ?_;simp only[S.NZ,aA,bF,aa,aD];rw[if_pos (by simp only[decide_eq_true_eq];omega),d_ aO];simp only[aa];have uY:J H1 1 false (iB oW 1 p.threads i)=some (aQ aC.cells t):=HA (c:=fun l=>aQ aC.cells l) H1 hx;rw[uY];simp only[aa,ab,vc];rw[show bJ [.aq .nil 0 [],.aq .nil 0 [],.int .i64 0,.int .i64 0,.int .i64 0,.int .i64 0] [(0,1,aQ aK.cells p.vars)]=some (.agg (dw p.vars s0 (.aq .nil 0 [])))from rfl];simp only[aa];have hb:bB H1 true 6 (.agg (dw p.vars s0 (.aq .nil 0 [])))=some (.ptr H1.n 0,H1.push (.row (dw p.vars s0 (.aq .nil 0 [])))):=by unfold bB;rw[if_pos ⟨rfl,rfl⟩];rfl
      rw[hb];simp only[bw];have Xz:=At.new H1 (.row (dw p.vars s0 (.aq .nil 0 [])));have bU:dK≠H1.n:=ha.qR;have a3:=ha.push (.row (dw p.vars s0 (.aq .nil 0 [])));generalize H1.push (.row (dw p.vars s0 (.aq .nil 0 [])))=H2 at *;generalize H1.n=id at *;have hm:=Al;refine Sq aw hT (kw:=kw) (by omega) (fun x zI=>am_ aw hT pY hv pV x (yo x zI)) (s:=s0) ⟨by decide,by decide,by decide⟩ Xz (.inl ⟨rfl,rfl⟩) fun H5 CA f5 a5 l5=>?_;have Ku:=f5.2.1 dK _ bU (fun n e=>by cases e) a3;rw[vx]at he;generalize gQ p.vars kw s0 1 t=s5 at *;refine S.BT hT (BS a5 ?_);simp only[aD];refine aN (fun h=>?_) (fun h=>?_)
      · rw[if_pos (by simpa using h)]at he;simp only[bR,ab,aa,Nat.zero_add];rw[a5.load,show cC (dw p.vars s5 CA) 4 2 true=some (.agg [.int .i64 s5.nN,.int .i64 s5.aV])from rfl];simp only[aa];exact out _ _ H5 Ku he
      · rw[if_neg (by simpa using h)]at he;simp only[cp,aa];rw[wrap_i64 (by omega) (by omega),show((i:Int)+1)=((i+1:Nat):Int) by simp];exact ih (i+1) H5 bC Ku he
    exact main p.threads 0 H4 rfl we rfl
 have k4:∀b:Bool,(b=true↔(32<p.vars.length∨p.threads.length<1∨8<p.threads.length))→ak (S.NX (au C) (.av p.cells) (.ptr dK 0) Q) [.bool b] H4:=by
  intro b hb;simp only[aG,S.NX,aA,aD];refine aN (fun h=>?_) (fun h=>?_)
  · rw[if_pos (hb.1 h)]at out;rw[show bJ [.int .i64 0,.int .i64 0] [(1,1,.int .i64 12)]=some (.agg [.int .i64 0,.int .i64 12])from rfl];simp only[aa];exact out 0 12 H4 we rfl
  ·exact k3 fun y=>h (hb.2 y)
 have k5:∀b:Bool,(b=true↔(32<p.vars.length∨p.threads.length<1))→ak (S.NY (au C) (.av p.cells) (.ptr dK 0) Q) [.bool b] H4:=by
  intro b hb;simp only[aG,S.NY,aA,cj,ab,aa,rK,cu,eY];refine gG (fun h=>?_) (fun h=>?_)
  · refine k4 _ ?_;have hn:¬(32<p.vars.length∨p.threads.length<1):=fun y=>by have:=hb.2 y;rw[h]at this;cases this
    simp only[decide_eq_true_eq,gt_iff_lt];omega
  · refine k4 _ ?_;have:=hb.1 h;simp only[true_iff];omega
 refine gG (fun h=>?_) (fun h=>?_)
 · simp only[rK,aa,cu,bF];refine k5 _ ?_;simp only[decide_eq_false_iff_not,gt_iff_lt]at h;simp only[decide_eq_true_eq];omega
 · refine k5 _ ?_;simp only[decide_eq_true_eq,gt_iff_lt]at h;simp only[true_iff];omega
end
end Rb

namespace Rb
open Go
abbrev ahH(n:Int):Int:=IntKind.wrap .u64 n
mutual
def V_:aF→Int→Int
 | .mk kind n name op order place kids,m=>if kind≥4 then aR (aR (m+aR (uG place+vu kids 0))+1)else aR (m+aR (uG place+vu kids 0))
def vu:List aF→Int→Int
 |[],m=>m
 |e::r,m=>vu r (V_ e m)
def uG:aT→Int
 | .mk var parts=>afZ parts 0
def afZ:List a_→Int→Int
 |[],m=>m
 |p::r,m=>afZ r (ag0 p m)
def ag0:a_→Int→Int
 | .mk field index,m=>aR (m+vu index 0)
end
mutual
def Wa:aC→Int→Int
 | .mk kind line name cW order place exprs aZ bz,m=>
  if 3≤kind∧kind≤7 then aR (aR (m+aR (aR (aR (uG place+vu exprs 0)+Ce aZ 0)+Ce bz 0))+1)
  else aR (m+aR (aR (aR (uG place+vu exprs 0)+Ce aZ 0)+Ce bz 0))
def Ce:List aC→Int→Int
 |[],m=>m
 |x::r,m=>Ce r (Wa x m)
end
structure yJ where
 kind:Int
 site:Int
 line:Int
 spot:ec
 order:Int
 op:Int
 d0:Int
 d1:Int
def q5:ec:=⟨0,0,0,false,0,0⟩
def Jj:yJ:=⟨0,0,0,q5,0,0,0,0⟩
def yJ.cells(w:yJ):List AV:= .int .i64 w.kind :: .int .i64 w.site :: .int .i64 w.line::(w.spot.cells++[.int .i64 w.order,.int .i64 w.op,.int .u64 w.d0,.int .u64 w.d1])
structure RS where
 gV:List (Int×Int)
 fq:List (List UInt8×Int)
 pr:List Int
 line:Int
 fuel:Int
 fin:Int
 want:yJ
 stop:Bool
 empty:Bool
def RS.get(s:RS)(x:List UInt8):Int:=match s.fq.find? (fun l=>l.1==x)with|some l=>l.2|none=>0
def RS.put(s:RS)(x:List UInt8)(v:Int):RS:=match s.fq.findIdx? (fun l=>l.1==x)with|some i=>{s with fq:=s.fq.set i (x,v)}|none=>s
def QV(a b:Int):Int:=IntKind.wrap .u64 (BitVec.ofInt 64 a &&& BitVec.ofInt 64 b).toNat
def oor(a b:Int):Int:=IntKind.wrap .u64 (BitVec.ofInt 64 a ||| BitVec.ofInt 64 b).toNat
def ax8(a b:Int):Int:=IntKind.wrap .u64 (BitVec.ofInt 64 a ^^^ BitVec.ofInt 64 b).toNat
def avD(a b:Int):Int:=IntKind.wrap .u64 (BitVec.ofInt 64 a &&& ~~~BitVec.ofInt 64 b).toNat
def QX(a b:Int):Int:=IntKind.wrap .u64 (a*2^(min b.toNat 64))
def ahA(a b:Int):Int:=a.fdiv (2^(min b.toNat 64))
def Qs(n:Int):Int:=if n<1 then 0 else if n≥64 then 18446744073709551615 else IntKind.wrap .u64 (QX 1 n-1)
def oin(n:Int):Bool:=decide (n≥0)&&decide (n<64)
def ax4(x a n:Int):Int:=if oin a=true then QV (ahA x a) (Qs n)else 0
def ax6(x a n v:Int):Int:=if oin a=true then oor (avD x (QX (Qs n) a)) (QX (QV v (Qs n)) a)else x
def avF(op a b:Int):Int:=
 if op=1 then IntKind.wrap .u64 (a+b)else if op=2 then IntKind.wrap .u64 (a-b)else if op=3 then IntKind.wrap .u64 (a*b)
 else if op=4 then QV a b else if op=5 then oor a b else if op=6 then ax8 a b
 else if op=7 then QX a (b.tmod 64)else if op=8 then ahA a (b.tmod 64)
 else if(if op=9 then a==b else if op=10 then a != b else decide (a<b))=true then 1 else 0
def lD:List aK→Int→List ec→Int×Int×List ec
 |[],at',acc=>(0,at',acc)
 | v::r,at',acc=>if(cd v.type).2≠0 then((cd v.type).2,0,[])else
  let x:=aR (aR (Int.tdiv (aR (aR (at'+(cd v.type).1.2)-1)) (cd v.type).1.2)*(cd v.type).1.2);let y:=if x>65536 then 65537 else x
  lD r (aR (y+(cd v.type).1.1)) (acc++[⟨aR (65536+y),(cd v.type).1.1,0,false,0,0⟩])
def mapM(vars:List aK):Int×Int×List ec:=if(lD vars 0 []).1≠0 then((lD vars 0 []).1,0,[])else if(lD vars 0 []).2.1>65536 then(9,0,[])else lD vars 0 []
def vv:List a_→Int→Int
 |[],n=>n
 |p::r,n=>vv r (aR (n+p.index.length))
def qd(t:aE):List ec:=match gY t.packed t.kind ⟨0,1,[],0⟩ t.fields with|some p=>p.gS|none=>[]
def VT:List a_→aE→ec→List Int→Option ec
 |[],_,sp,_=>some sp
 | p :: r,t,sp,idx=>
  if p.index.length=1 then(match idx with
    |[]=>none
    | i::q=>if i≥ahH t.count then none else match t.elem with
     |[]=>none
     |e::_=>VT r e {sp with at_:=aR (sp.at_+aR (IntKind.wrap .i64 i*(cd e).1.1)),len:=(cd e).1.1} q)
  else match t.fields.findIdx? (fun f=>f.name==p.field)with
   |none=>none
   | some n=>match t.fields[n]?,(qd t)[n]? with
    |some f,some s=>VT r f.type {s with at_:=aR (s.at_+sp.at_)} idx
    |_,_=>none
def qY(vars:List aK)(x:aT)(idx:List Int):ec:=
 if(mapM vars).1≠0 then q5 else if(dm vars x).1≠0 then q5 else if ¬((dm vars x).2.kind=1∨(dm vars x).2.kind=2)then q5
 else if(idx.length:Int)≠vv x.parts 0 then q5 else
 match vars.findIdx? (fun v=>v.name==x.var)with
 |none=>q5
 | some n=>match vars[n]?,(mapM vars).2.2[n]? with
  | some v,some g=>match VT x.parts v.type {q5 with at_:=g.at_,len:=g.len} idx with
   |some sp=>{sp with kind:=(dm vars x).2.kind}
   |none=>q5
  |_,_=>q5
def aww(vars:List aK)(x:aT):Int:=if(dm vars x).1=0 then(dm vars x).2.count else 0
section
variable(vars:List aK)
def wrD(sp:ec)(o v:Int):Int:=QV (if sp.bits=true then ax6 o sp.bit sp.width v else v) (Qs (aR (8*sp.len)))
variable(c:Nat)
end
end Rb

namespace Rb
open Go
section
variable{H:AH}{id:Nat}
theorem Vm{e:aF}(h:At H id (.row e.cells)):J H 1 false (.ptr id 0)=some (.int .i64 e.kind):=by rw[h.load,aF.bf,aT.bf];rfl
theorem auV{e:aF}(h:At H id (.row e.cells)):J H 2 true (.ptr id 5)=some (.agg e.place.cells):=by rw[h.load,aF.bf,aT.bf];rfl
theorem auW{e:aF}(h:At H id (.row e.cells)):J H 1 false (.ptr id 7)=some (aQ aF.cells e.kids):=by rw[h.load,aF.bf,aT.bf];rfl
theorem atn{e:aF}(h:At H id (.row e.cells)):J H 8 true (.ptr id 0)=some (.agg e.cells):=by rw[h.load,mK e.len]
theorem Fj{e:aC}(h:At H id (.row e.cells)):J H 1 false (.ptr id 0)=some (.int .i64 e.kind):=by rw[h.load,aC.bf,aT.bf];rfl
theorem avQ{e:aC}(h:At H id (.row e.cells)):J H 1 false (.ptr id 1)=some (.int .i64 e.line):=by rw[h.load,aC.bf,aT.bf];rfl
theorem avS{e:aC}(h:At H id (.row e.cells)):J H 2 true (.ptr id 5)=some (.agg e.place.cells):=by rw[h.load,aC.bf,aT.bf];rfl
theorem avT{e:aC}(h:At H id (.row e.cells)):J H 1 false (.ptr id 7)=some (aQ aF.cells e.exprs):=by rw[h.load,aC.bf,aT.bf];rfl
theorem avU{e:aC}(h:At H id (.row e.cells)):J H 1 false (.ptr id 8)=some (aQ aC.cells e.aZ):=by rw[h.load,aC.bf,aT.bf];rfl
theorem avV{e:aC}(h:At H id (.row e.cells)):J H 1 false (.ptr id 9)=some (aQ aC.cells e.bz):=by rw[h.load,aC.bf,aT.bf];rfl
theorem aul{e:aC}(h:At H id (.row e.cells)):J H 10 true (.ptr id 0)=some (.agg e.cells):=by rw[h.load,mK e.len]
end
theorem BP(x:aT)(H:AH):bB H false 2 (.agg x.cells)=some (.av x.cells,H):=by unfold bB;rw[if_pos ⟨rfl,x.len⟩];rfl
theorem BE(x:aT)(i:Nat):ab i (.av x.cells)=some (.av (x.cells.drop i)):=rfl
theorem afN(x:aT)(H:AH):J H 1 false (.av (x.cells.drop 0))=some (.str x.var):=by rw[aT.bf];rfl
theorem An(x:aT)(H:AH):J H 1 false (.av (x.cells.drop 1))=some (aQ a_.cells x.parts):=by rw[aT.bf];rfl
theorem T7(x:aT)(H:AH):J H 2 true (.av x.cells)=some (.agg x.cells):=mK x.len
section
variable{C:Ctx}(aw:dz C)(hT:Cl (au C) S.cH)
include aw hT
end
end Rb

namespace Rb
open Go
structure Kp(s s':RS):Prop where
 fq:s'.fq=s.fq
 pr:s'.pr=s.pr
 line:s'.line=s.line
 st:s.stop=true→s'=s
 fu:0≤s.fuel→s.fuel≤1000000→s'.stop=false→0≤s'.fuel∧s'.fuel≤s.fuel
theorem Kp.refl(s:RS):Kp s s:=⟨rfl,rfl,rfl,fun _=>rfl,fun h _ _=>⟨h,Int.le_refl _⟩⟩
theorem Kp.stop{s s':RS}(h:Kp s s')(h':s'.stop=false):s.stop=false:=by
 cases hs:s.stop with
 |false=>rfl
 |true=>rw[h.st hs,hs]at h';cases h'
theorem Kp.trans{a b c:RS}(h:Kp a b)(k:Kp b c):Kp a c where
 fq:=k.fq.trans h.fq
 pr:=k.pr.trans h.pr
 line:=k.line.trans h.line
 st:=fun e=>by have e1:=h.st e;rw[e1]at k;exact k.st e
 fu:=fun h0 h1 h2=>by have hb:=k.stop h2;have x:=h.fu h0 h1 hb;have y:=k.fu x.1 (by omega) h2;exact⟨y.1,by omega⟩
section
variable(vars:List aK)
end
structure Ks(s s':RS):Prop where
 pr:s.pr <+: s'.pr
 st:s.stop=true→s'=s
 fu:0≤s.fuel→s.fuel≤1000000→s'.stop=false→0≤s'.fuel∧s'.fuel≤s.fuel
theorem Kp.ks{s s':RS}(h:Kp s s'):Ks s s':=⟨by rw[h.pr];exact List.prefix_refl _,h.st,h.fu⟩
theorem Ks.refl(s:RS):Ks s s:=(Kp.refl s).ks
theorem Ks.stop{s s':RS}(h:Ks s s')(h':s'.stop=false):s.stop=false:=by
 cases hs:s.stop with
 |false=>rfl
 |true=>rw[h.st hs,hs]at h';cases h'
theorem Ks.trans{a b c:RS}(h:Ks a b)(k:Ks b c):Ks a c where
 pr:=h.pr.trans k.pr
 st:=fun e=>by have e1:=h.st e;rw[e1]at k;exact k.st e
 fu:=fun h0 h1 h2=>by have hb:=k.stop h2;have x:=h.fu h0 h1 hb;have y:=k.fu x.1 (by omega) h2;exact⟨y.1,by omega⟩
section
variable(vars:List aK)
theorem aoa(s:RS)(x:List UInt8)(v:Int):(s.put x v).pr=s.pr∧(s.put x v).fuel=s.fuel∧(s.put x v).stop=s.stop∧(s.put x v).gV=s.gV∧(s.put x v).line=s.line∧(s.put x v).fin=s.fin∧(s.put x v).want=s.want∧(s.put x v).empty=s.empty:=by unfold RS.put;split<;>exact⟨rfl,rfl,rfl,rfl,rfl,rfl,rfl,rfl⟩
variable(c:Nat)
end
end Rb

namespace Rb
open Go
def awr(a:Int×Int):List AV:=[.int .u64 a.1,.int .u64 a.2]
def JU(l:List UInt8×Int):List AV:=[.str l.1,.int .u64 l.2]
def RY(vars:List aK)(s:RS)(lx px:AV):List AV:=aQ aK.cells vars::aQ awr s.gV::lx::px :: .int .i64 s.line :: .int .i64 s.fuel :: .int .i64 s.fin::(s.want.cells++[.bool s.stop,.bool s.empty])
def uE(H:AH)(id:Nat)(L:List (List UInt8×Int))(x:AV):Prop:=(x = .aq .nil 0 []∧L=[])∨∃j cs m,x = .row j 0 L.length 2∧j≠id∧At H j (.row cs)∧cs.length=m*2∧L.length≤m∧cs.take (L.length*2)=L.flatMap JU
theorem uE.aY{H H':AH}{id:Nat}{L:List (List UInt8×Int)}{x:AV}(h:uE H id L x)(k:cM id H H'):uE H' id L x:=by
 rcases h with h|⟨j,cs,m,h1,h2,h3,h4⟩
 ·exact .inl h
 ·exact .inr ⟨j,cs,m,h1,h2,k.2 j _ h2 h3,h4⟩
structure RS.ok(s:RS):Prop where
 gV:∀x∈s.gV,Ax x.1∧Ax x.2
 fq:∀l∈s.fq,Ax l.2
theorem ayB:Ax 0:=⟨by decide,by decide⟩
theorem RS.ok.get{s:RS}(h:s.ok)(x:List UInt8):Ax (s.get x):=by
 unfold RS.get;split
 · rename_i l hl;exact h.fq l (List.mem_of_find?_eq_some hl)
 ·exact ayB
theorem RS.ok.put{s:RS}(h:s.ok)(x:List UInt8){v:Int}(hv:Ax v):(s.put x v).ok:=by
 unfold RS.put;split
 · refine⟨h.gV,fun l hl=>?_⟩;rcases List.mem_or_eq_of_mem_set hl with hl|rfl
   ·exact h.fq l hl
   ·exact hv
 ·exact h
section
variable(vars:List aK)
end
section
variable{vars:List aK}{s:RS}{lx px:AV}{H:AH}{id:Nat}(h:At H id (.row (RY vars s lx px)))
include h
end
end Rb

namespace Rb
open Go
section
variable{Φ:aj}{H:AH}{Q:ae}
end
section
variable{C:Ctx}(aw:dz C)(hT:Cl (au C) S.cH)
include aw hT
variable{vars:List aK}{s:RS}{lx px:AV}{H:AH}{id:Nat}{Q:ae}
end
end Rb

namespace Rb
open Go
def cU(n0:Nat)(H:AH)(sz:Nat)(x:AV)(len:Nat)(cells:List AV):Prop:=∃tk,x = .aq tk len cells∧cells.length=len*sz∧((tk = .nil∧len=0)∨tk = .full∨∃t,tk = .own t∧n0≤t∧At H t (.tok (len*sz) sz))
theorem cU.nil(n0:Nat)(H:AH)(sz:Nat):cU n0 H sz (.aq .nil 0 []) 0 []:=⟨.nil,rfl,by simp,.inl ⟨rfl,rfl⟩⟩
theorem cU.frame{n0:Nat}{H H':AH}{sz len:Nat}{x:AV}{cells:List AV}(h:cU n0 H sz x len cells)(k:∀t a b,At H t (.tok a b)→At H' t (.tok a b)):cU n0 H' sz x len cells:=by
 obtain⟨tk,hx,hc,ht⟩:=h;refine⟨tk,hx,hc,?_⟩;rcases ht with ht|ht|⟨t,h1,h2,h3⟩
 ·exact .inl ht
 ·exact .inr (.inl ht)
 ·exact .inr (.inr ⟨t,h1,h2,k t _ _ h3⟩)
def Left(n0:Nat)(H H':AH):Prop:=H.n≤H'.n∧∀i o,At H i o→(i<n0∨∀a b,o ≠ .tok a b)→At H' i o
theorem cU.app{n0 sz bytes len m:Nat}{H:AH}{x y:AV}{cells news:List AV}{K:ae}(h:cU n0 H sz x len cells)(wA:n0≤H.n)(hy:mM H sz y=some (m,news))(hn:news.length=m*sz)(hs:news.all AV.scalar=true)(hm:m≠0)
  (hb:(len+m)*bytes≤140737488355328) (hl:len+m≤9223372036854775807) (hK:∀x' H',cU n0 H' sz x' (len+m) (cells++news)→Left n0 H H'→K x' H'):aJ (eF H false sz bytes x y) K:=by
 obtain⟨tk,rfl,hc,gD⟩:=h;have hlen:(cells++news).length=(len+m)*sz:=by simp[hc,hn,Nat.add_mul]
 have grow:∀tk:Tok,tk = .full∨(tk = .nil∧len=0)→eF H false sz bytes (.aq tk len cells) y=some (.aq (.own H.n) (len+m) (cells++news),H.push (.tok ((len+m)*sz) sz)):=by intro tk ht;simp only[eF,hy,hs,not_true_eq_false,if_false,if_neg hm];rw[if_neg (by simp only[Decidable.not_not];exact⟨hc,hb,hl⟩)];rcases ht with rfl|⟨rfl,_⟩<;>rfl
 have fresh:K (.aq (.own H.n) (len+m) (cells++news)) (H.push (.tok ((len+m)*sz) sz)):=
  hK _ _ ⟨_,rfl,hlen,.inr (.inr ⟨H.n,rfl,wA,At.new H _⟩)⟩ ⟨Nat.le_succ _,fun i o h _=>h.push _⟩
 rcases gD with ht|ht|⟨t,rfl,h1,h2⟩
 ·exact⟨_,_,grow tk (.inr ht),fresh⟩
 ·exact⟨_,_,grow tk (.inl ht),fresh⟩
 · refine ⟨.aq (.own H.n) (len+m) (cells++news),(H.set t .gone).push (.tok ((len+m)*sz) sz),?_,hK _ _ ⟨_,rfl,hlen,.inr (.inr ⟨H.n,rfl,wA,At.new (H.set t .gone) _⟩)⟩ ⟨Nat.le_succ _,fun i o hi ho=>(hi.dq (fun e=>?_) _).push _⟩⟩
   · simp only[eF,hy,hs,not_true_eq_false,if_false,if_neg hm];rw[if_neg (by simp only[Decidable.not_not];exact⟨hc,hb,hl⟩)];simp[h2.2]
   · subst e;rcases ho with ho|ho
     ·omega
     ·exact ho _ _ (hi.2.symm.trans h2.2)
theorem Left.row{n0:Nat}{H H':AH}{i:Nat}{cs:List AV}(k:Left n0 H H')(h:At H i (.row cs)):At H' i (.row cs):=k.2 _ _ h (.inr fun _ _ e=>by cases e)
end Rb

namespace Rb
open Go
theorem SJ{m:Nat}:∀{l:List aP}{f:aP},f∈l→im m f.type≤jU m l
 | g::r,f,h=>by
  rw[jU];rcases List.mem_cons.1 h with rfl|h
  ·rw[HE];omega
  ·have:=SJ (m:=m) h;omega
theorem SI{m:Nat}:∀{l:List aE}{f:aE},f∈l→im m f≤iX m l
 | g::r,f,h=>by
  rw[iX];rcases List.mem_cons.1 h with rfl|h
  ·omega
  ·have:=SI (m:=m) h;omega
theorem Z1{m k:Nat}:∀{l:List aP},(∀f∈l,im m f.type=im k f.type)→jU m l=jU k l
 |[],_=>by rw[jU,jU]
 |g::r,h=>by rw[jU,jU,HE,HE,h g (List.mem_cons_self ..),Z1 fun f hf=>h f (List.mem_cons_of_mem _ hf)]
theorem Z0{m k:Nat}:∀{l:List aE},(∀f∈l,im m f=im k f)→iX m l=iX k l
 |[],_=>by rw[iX,iX]
 |g::r,h=>by rw[iX,iX,h g (List.mem_cons_self ..),Z0 fun f hf=>h f (List.mem_cons_of_mem _ hf)]
theorem anx:∀(t:aE)(m:Nat),im m t<m→im (m+1) t=im m t:=by
 refine aE.ind fun t mH k_ m h=>?_;rw[BH]at h;by_cases h1:1<m
 · rw [if_pos h1]at h;rw[BH,BH,if_pos (by omega),if_pos h1,Nat.add_sub_cancel];have e1:jU m t.fields=jU (m-1) t.fields:=Z1 fun f hf=>by
    have:=SJ (m:=m-1) hf;have:=mH f hf (m-1) (by omega);rw[show m-1+1=m by omega]at this;exact this
   have e2:iX m t.elem=iX (m-1) t.elem:=Z0 fun f hf=>by have:=SI (m:=m-1) hf;have:=k_ f hf (m-1) (by omega);rw[show m-1+1=m by omega]at this;exact this
   rw[e1,e2]
 ·rw[if_neg h1]at h;omega
theorem aaV{t u:aE}(h:iI t=0)(hu:(∃f∈t.fields,f.type=u)∨u∈t.elem)(hs:ed u=0):iI u=0:=by
 have hd:¬64<im 65 t:=by intro e;unfold iI at h;rw[if_pos e]at h;cases h
 rw[BH,if_pos (by decide)]at hd;have:im 64 u≤63:=by
  rcases hu with⟨f,hf,rfl⟩|hu
  · have:=SJ (m:=64) hf;simp only[show 65-1=64 from rfl]at hd;omega
  · have:=SI (m:=64) hu;simp only[show 65-1=64 from rfl]at hd;omega
 have e:=anx u 64 (by omega);unfold iI;rw[if_neg (by rw[show(65:Nat)=64+1 from rfl,e];omega),hs]
theorem Sw{packed:Bool}{kind:Int}:∀{l:List aP}{p q:PL},gY packed kind p l=some q→(∀f∈l,(bh f.type).2=true)∧q.gS.length=p.gS.length+l.length
 | [],p,q,h=>by simp only[gY,Option.some.injEq]at h;subst h;exact⟨fun f hf=>(by cases hf),rfl⟩
 | f :: r, p,q,h=>by
  simp only[gY,EL]at h;by_cases h1:(bh f.type).2=true
  · rw [if_pos h1]at h;obtain⟨h2,h3⟩:=Sw h;refine⟨fun g hg=>?_,?_⟩
    · rcases List.mem_cons.1 hg with rfl|hg
      ·exact h1
      ·exact h2 g hg
    · have hl:(o_ packed kind p f (bh f.type).1).gS.length=p.gS.length+1:=by
        unfold o_;dsimp only;split
        · unfold xi;split<;>simp[xp]
        ·simp[xp,PQ]
      rw[h3,hl,List.length_cons];omega
  ·rw[if_neg h1]at h;cases h
structure aE.lay(t:aE):Prop where
 ok:t.ok
 snd:iI t=0
 W1:jl t=false
 of:(bh t).2=true
theorem afF{t:aE}(ho:t.ok)(h:(cd t).2=0):t.lay:=by
 unfold cd at h;by_cases h1:iI t≠0
 ·rw[if_pos h1]at h;exact absurd h h1
 · rw [if_neg h1]at h;by_cases h2:jl t=true
   · rw[if_pos h2]at h;have:(10:Int)=0:=h;omega
   · rw [if_neg h2]at h;by_cases h3:(bh t).2=false
     · rw[if_pos h3]at h;have:(9:Int)=0:=h;omega
     ·exact⟨ho,by omega,by simpa using h2,by simpa using h3⟩
theorem aE.lay.zero{t:aE}(h:t.lay):cd t=((bh t).1,0):=by unfold cd;rw[if_neg (by rw[h.snd];decide),if_neg (by rw[h.W1];decide),if_neg (by rw[h.of];decide)]
theorem aE.Vd{t:aE}(h:t.ok):(∀f∈t.fields,f.type.ok)∧(∀e∈t.elem,e.ok)∧t.fields.length≤9223372036854775807:=by
 cases t with
 | mk kind size packed fields count elem=>obtain⟨_,_,h1,h2,_,h3,h4⟩:=h;refine⟨fun f hf=>?_,aE.iW.1 h4,by rw[←Al];exact h1⟩;have:=aP.iW.1 h2 f hf;cases f;exact this.2.1
theorem anQ{t e:aE}(h:t.lay)(hk:t.kind=5)(he:e∈t.elem):e.lay:=by
 have hs:=sW h.snd;obtain⟨e',fj,yk⟩:=wZ hs hk;have Yd:e=e':=by rw[fj]at he;simpa using he
 subst Yd;refine⟨(aE.Vd h.ok).2.1 e he,aaV h.snd (.inr he) yk,?_,?_⟩
 · have ht:=h.W1;cases t with
   | mk kind size packed fields count elem=>rw[jl]at ht;simp only[Bool.or_eq_false_iff]at ht;have:=ht.1.2;rw[SC,List.any_eq_false]at this;simpa using this e he
 · have ho:=h.of;rw[vr,if_neg (by omega),if_pos hk,fj]at ho;simp only[ue,Bool.and_eq_true]at ho;exact ho.1
theorem Mh{t:aE}(h:t.lay)(hk:t.kind=3∨t.kind=4):∃p,gY t.packed t.kind ⟨0,1,[],0⟩ t.fields=some p∧dX p.size p.align≤65536∧p.gS.length=t.fields.length:=by
 have ho:=h.of;rw[vr,if_neg (by omega),if_neg (by omega)]at ho;cases hp:gY t.packed t.kind ⟨0,1,[],0⟩ t.fields with
 |none=>rw[hp]at ho;cases ho
 | some p=>rw[hp]at ho;refine⟨p,rfl,by simpa using ho,?_⟩;have:=(Sw hp).2;simpa using this
theorem SR{t:aE}{f:aP}(h:t.lay)(hk:t.kind=3∨t.kind=4)(hf:f∈t.fields):f.type.lay:=by
 have hs:=sW h.snd;obtain⟨p,hp,_⟩:=Mh h hk;refine⟨(aE.Vd h.ok).1 f hf,aaV h.snd (.inl ⟨f,hf,rfl⟩) ((Ae hs hk).1 f hf),?_,(Sw hp).1 f hf⟩;have ht:=h.W1;cases t with
 | mk kind size packed fields count elem=>rw[jl]at ht;simp only[Bool.or_eq_false_iff]at ht;have:=ht.2;rw[SD,List.any_eq_false]at this;simpa using this f hf
theorem al8{t:aE}(h:t.lay)(hk:t.kind=3∨t.kind=4):(qd t).length=t.fields.length:=by obtain⟨p,hp,_,hl⟩:=Mh h hk;unfold qd;rw[hp];exact hl
theorem anR{t:aE}{p:a_}(h:t.lay)(h0:(fU t p).1=0) :
  (p.index.length=1∧t.kind=5∧∃e r,t.elem=e::r∧fU t p=(0,e)∧e.lay) ∨
  (p.index=[]∧(t.kind=3∨t.kind=4)∧∃n f s,t.fields.findIdx? (fun f=>f.name==p.field)=some n∧t.fields[n]?=some f∧(qd t)[n]?=some s∧fU t p=(0,f.type)∧f.type.lay):=by
 unfold fU at h0 ⊢;by_cases c1:1<p.index.length∨(p.index.length=1↔p.field≠[])
 · rw[if_pos c1]at h0;have:(8:Int)=0:=h0;omega
 rw[if_neg c1]at h0;by_cases c2:p.index.length=1∧t.kind=5
 · rw [if_pos c2]at h0;left;cases he:t.elem with
   | nil=>rw[he]at h0;have:(8:Int)=0:=h0;omega
   |cons e r=>exact⟨c2.1,c2.2,e,r,rfl,by rw[if_neg c1,if_pos c2],anQ h c2.2 (by rw[he];exact List.mem_cons_self ..)⟩
 rw[if_neg c2]at h0;by_cases c3:p.index.length=1∨¬(t.kind=3∨t.kind=4)
 · rw[if_pos c3]at h0;have:(8:Int)=0:=h0;omega
 rw[if_neg c3]at h0;have hk:t.kind=3∨t.kind=4:=by omega
 right;rcases BA (fun f:aP=>f.name==p.field) t.fields with⟨i,f,h1,h2,h3⟩|⟨h1,h2⟩
 · have aO:=(List.getElem?_eq_some_iff.1 h3).1;have hl:i<(qd t).length:=by rw[al8 h hk];exact aO
   refine⟨List.length_eq_zero_iff.1 (by omega),hk,i,f,(qd t)[i],h1,h3,List.getElem?_eq_getElem hl,?_,SR h hk (List.mem_of_getElem? h3)⟩;rw[if_neg c1,if_neg c2,if_neg c3,h2]
 · rw[h2]at h0;have:(6:Int)=0:=h0;omega
end Rb

namespace Rb
open Go
def nh:List aK→List ec→List AV
 |v::r,s::t=> .str v.name :: .int .i64 s.at_ :: .int .i64 s.len::nh r t
 |_,_=>[]
theorem aaE:∀(a:List aK)(s:List ec)(v:aK)(g:ec),a.length=s.length→nh (a++[v]) (s++[g])=nh a s++[.str v.name,.int .i64 g.at_,.int .i64 g.len]
 |[],[],v,g,_=>rfl
 | x::a,y::s,v,g,h=>by rw[List.cons_append,List.cons_append,nh,nh,aaE a s v g (by simpa using h)];rfl
theorem ZN:∀(a:List aK)(s:List ec),AV.lZ (nh a s)=nh a s
 |v::r,s::t=>by rw[nh,AV.lZ,AV.lZ,AV.lZ,ZN r t];rfl
 |[],[]=>rfl
 |[],_::_=>rfl
 |_::_,[]=>rfl
theorem Z8:∀(a:List aK)(s:List ec),AV.dD (nh a s)=true
 |v::r,s::t=>by rw[nh];simp only[AV.dD,AV.cD,Z8 r t];rfl
 |[],[]=>rfl
 |[],_::_=>rfl
 |_::_,[]=>rfl
def y8(vars:List aK):AV:=if(mapM vars).1≠0 then .aM [.aq .dead 0 [],.int .i64 0,.int .i64 (mapM vars).1]else .aM [.aq .dead vars.length (nh vars (mapM vars).2.2),.int .i64 (mapM vars).2.1,.int .i64 0]
def DJ(at':Int)(v:aK):Int:=if aR (aR (Int.tdiv (aR (aR (at'+(cd v.type).1.2)-1)) (cd v.type).1.2)*(cd v.type).1.2)>65536 then 65537 else aR (aR (Int.tdiv (aR (aR (at'+(cd v.type).1.2)-1)) (cd v.type).1.2)*(cd v.type).1.2)
theorem aaJ(v:aK)(r:List aK)(at':Int)(acc:List ec):lD (v::r) at' acc=if(cd v.type).2≠0 then((cd v.type).2,0,[])else lD r (aR (DJ at' v+(cd v.type).1.1)) (acc++[⟨aR (65536+DJ at' v),(cd v.type).1.1,0,false,0,0⟩]):=rfl
theorem anY{vars:List aK}(h:(lD vars 0 []).1≠0):y8 vars = .aM [.aq .dead 0 [],.int .i64 0,.int .i64 (lD vars 0 []).1]:=by
 have e:mapM vars=((lD vars 0 []).1,0,[]):=by unfold mapM;rw[if_pos h]
 unfold y8;rw[e];exact if_pos h
theorem anZ{vars:List aK}(h:(lD vars 0 []).1=0)(h2:(lD vars 0 []).2.1>65536):y8 vars = .aM [.aq .dead 0 [],.int .i64 0,.int .i64 9]:=by
 have e:mapM vars=(9,0,[]):=by unfold mapM;rw[if_neg (by omega),if_pos h2]
 unfold y8;rw[e];exact if_pos (show(9:Int)≠0 by decide)
theorem amW{vars:List aK}(h:(lD vars 0 []).1=0)(h2:¬(lD vars 0 []).2.1>65536):y8 vars = .aM [.aq .dead vars.length (nh vars (lD vars 0 []).2.2),.int .i64 (lD vars 0 []).2.1,.int .i64 0]:=by
 have e:mapM vars=lD vars 0 []:=by unfold mapM;rw[if_neg (by omega),if_neg h2]
 unfold y8;rw[e];exact if_neg (by omega)
section
variable{H:AH}{id:Nat}
theorem av2{v:aK}(h:At H id (.row v.cells)):J H 1 false (.ptr id 0)=some (.str v.name):=by rw[h.load];cases v;rfl
theorem av3{v:aK}(h:At H id (.row v.cells)):J H 6 true (.ptr id 1)=some (.agg v.type.cells):=by
 rw[h.load];cases v with
 | mk name type=>show cC (.str name::type.cells) 1 6 true=_;unfold cC;rw[if_pos (by rw[List.length_cons,type.len];omega),if_pos rfl];show some (AV.agg (type.cells.take 6))=_;rw[List.take_of_length_le (by rw[type.len];omega)]
end
section
variable{C:Ctx}(aw:dz C)(hT:Cl (au C) S.cH)
include aw hT
theorem aoo{vars:List aK}(hl:vars.length≤1000000)(hv:∀v∈vars,v.ok):cG (au C) K.f11 [aQ aK.cells vars] (y8 vars):=by
 refine cG.of aw (by simp[AV.dD,zZ aK.cD]) (by
   unfold y8;split
   ·rfl
   ·simp[AV.cD,AV.dD,Z8,Tok.free]) fun Q hQ=>?_
 refine au.mb ?_;refine S.aqC hT ?_;unfold S.f11;simp only[cu,aa];have main:∀(r:List aK)(k:Nat)(at':Int)(acc:List ec)(x:AV)(H:AH),vars.drop k=r→k≤vars.length→acc.length=k→cU 0 H 3 x k (nh (vars.take k) acc)→lD r at' acc=lD vars 0 [] →
   aB (S.Ia (au C) (aQ aK.cells vars) (.int .i64 vars.length) fun v H'=>Q v.mb H') ([x,.int .i64 at',.int .i64 k],H):=by
  intro r;induction r with
  | nil=>
   intro k at' acc x H hd hk ha ho he;have hle:=fe hd;have hke:k=vars.length:=by omega
   subst hke;rw[List.take_length]at ho;refine aB.step ?_;simp only[S.Ia,aA,cv,bF,aa,aD,aG,S.adH,eY];rw[if_neg (by simp)];have e1:(lD vars 0 []).1=0:=by rw[←he];rfl
   have e2:(lD vars 0 []).2.1=at':=by rw[←he];rfl
   have e3:(lD vars 0 []).2.2=acc:=by rw[←he];rfl
   obtain⟨tk,rfl,_,_⟩:=ho;refine aN (fun h=>?_) (fun h=>?_)
   · rw[anZ e1 (by rw[e2];simpa using h)]at hQ;exact hQ _
   · rw[amW e1 (by rw[e2];simpa using h),e2,e3]at hQ;have:=hQ H;simp only[AV.mb,AV.lZ,ZN];exact this
  | cons v r ih=>
   intro k at' acc x H hd hk ha ho he;obtain⟨aO,hx,bC⟩:=eX hd;have hvo:=hv v (List.mem_of_getElem? hx);have Bc:v.type.ok:=by cases v;exact hvo.2
   refine aB.step ?_;simp only[S.Ia,aA,cv,bF,aa,aD];rw[if_pos (by simp only[decide_eq_true_eq];omega),d_ aO];simp only[aa];rw[gO aK.len (by decide) _ hx];simp only[aa,bw,be,if_true];rw[fC _ _ _ 7 v.len v.scalar rfl];have a2:=At.new H (.row v.cells);have KW:cU 0 (H.push (.row v.cells)) 3 x k (nh (vars.take k) acc):=ho.frame fun _ _ _ q=>q.push _;simp only[aa,ab,Nat.zero_add];rw[av3 a2];simp only[aa];generalize H.push (.row v.cells)=H2 at *;refine R8 aw hT v.type Bc _ _ ?_;simp only[db,List.getElem?_cons_zero,List.getElem?_cons_succ,aa,eK,aD];rw[aaJ]at he;refine aN (fun h=>?_) (fun h=>?_)
   · have h0:(cd v.type).2≠0:=by simpa using h
     rw[if_pos h0]at he;rw[anY (by rw[←he];exact h0),←he]at hQ;exact hQ H2
   · have h0:¬(cd v.type).2≠0:=by simpa using h
     rw[if_neg h0]at he;have eQ:1≤(cd v.type).1.2:=by have Gt:=afF Bc (by omega);rw[Gt.zero];exact SU _ (sW Gt.snd) Gt.of
     simp only[cp,nM,aa,wQ _ _ _ (show(cd v.type).1.2≠0 by omega),m7,eY,aD,aG];have k2:∀y:Int,y=DJ at' v →
       S.N0 (au C) (.ptr H.n 0) (.int .i64 (cd v.type).1.1) ([x,.int .i64 at',.int .i64 k],H) (aB (S.Ia (au C) (aQ aK.cells vars) (.int .i64 vars.length) fun v H'=>Q v.mb H')) (fun v H'=>Q v.mb H') [.int .i64 y] H2:=by
      intro y hy;simp only[S.N0,aA,cv,ab,Nat.zero_add,aa,av2 a2,cp];rw[show ∀a b:Int,bJ [.int .i64 0,.int .i64 0] [(0,1,AV.int .i64 a),(1,1,.int .i64 b)]=some (.agg [.int .i64 a,.int .i64 b])from fun _ _=>rfl];simp only[aa];refine⟨.agg [.str v.name,.int .i64 (aR (65536+y)),.int .i64 (cd v.type).1.1],rfl,?_⟩;dsimp only;rw[show fb H2 false 3 1 [.str [],.int .i64 0,.int .i64 0] [(0,3,AV.agg [.str v.name,.int .i64 (aR (65536+y)),.int .i64 (cd v.type).1.1])]=some (.aq .full 1 [.str v.name,.int .i64 (aR (65536+y)),.int .i64 (cd v.type).1.1],H2)from rfl];simp only[bw];refine KW.app (Nat.zero_le _) (m:=1) (news:=[.str v.name,.int .i64 (aR (65536+y)),.int .i64 (cd v.type).1.1]) rfl rfl rfl (by decide) (by omega) (by omega) fun x' H3 zI _=>?_;simp only[aG,S.adG,aA,cv,cp,aa];rw[wrap_i64 (n:=(k:Int)+1) (by omega) (by omega),show(k:Int)+1=((k+1:Nat):Int) by simp];have ht:vars.take (k+1)=vars.take k++[v]:=by rw[List.take_add_one,hx];rfl
      refine ih (k+1) _ (acc++[⟨aR (65536+y),(cd v.type).1.1,0,false,0,0⟩]) x' H3 bC aO (by simp[ha]) ?_ ?_
      · rw[ht,aaE _ _ _ _ (by rw[List.length_take,ha];omega)];exact zI
      ·rw[hy];exact he
     refine aN (fun h=>?_) (fun h=>?_)
     ·exact k2 _ (by unfold DJ;rw[if_pos (by simpa using h)])
     ·exact k2 _ (by unfold DJ;rw[if_neg (by simpa using h)])
 exact main vars 0 0 [] _ _ rfl (Nat.zero_le _) rfl (cU.nil _ _ _) rfl
end
end Rb

namespace Rb
open Go
theorem ZU:∀l:List ec,AV.lZ (l.flatMap ec.cells)=l.flatMap ec.cells
 |[]=>rfl
 |s::r=>by rw[List.flatMap_cons,anj,ZU r];rfl
theorem aan:∀l:List ec,AV.dD (l.flatMap ec.cells)=true
 |[]=>rfl
 | s::r=>by rw[List.flatMap_cons];show AV.dD ([.int .i64 s.at_,.int .i64 s.len,.int .i64 s.kind,.bool s.bits,.int .i64 s.bit,.int .i64 s.width]++r.flatMap ec.cells)=true;simp only[List.cons_append,List.nil_append,AV.dD,AV.cD,aan r];rfl
def wkC(t:aE)(sp:ec)(ix:AV):List AV:=t.cells++(sp.cells++[ix])
section
variable{H:AH}{id:Nat}{t:aE}{sp:ec}{ix:AV}(h:At H id (.row (wkC t sp ix)))
include h
end
theorem S7{fs:List aP}{i:Nat}{f:aP}(H:AH)(h:fs[i]?=some f):J H 6 true (.av (((fs.flatMap aP.cells).drop (i*9)).drop 1))=some (.agg f.type.cells):=by
 have e:=gO aP.len (by decide) H h;have hd:(fs.flatMap aP.cells).drop (i*9)=f.cells++(fs.drop (i+1)).flatMap aP.cells:=by
  have key:∀(xs:List aP)(i:Nat)(f:aP),xs[i]?=some f→(xs.flatMap aP.cells).drop (i*9)=f.cells++(xs.drop (i+1)).flatMap aP.cells:=by
   intro xs;induction xs with
   |nil=>intro i f h;simp at h
   | cons x r ih=>
    intro i f h;cases i with
    |zero=>simp at h;subst h;simp
    | succ i=>rw[List.flatMap_cons,show(i+1)*9=x.cells.length+i*9 by rw[x.len];omega,List.drop_length_add_append];exact ih i f (by simpa using h)
  exact key fs i f h
 rw[hd];show cC (List.drop 1 (f.cells++_)) 0 6 true=_;cases f with
 |mk n t b w=>cases t;rfl
section
variable{C:Ctx}(aw:dz C)(hT:Cl (au C) S.cH)
include aw hT
theorem alr{t:aE}(h:t.lay)(hk:t.kind=3∨t.kind=4):cG (au C) K.f112 [.agg t.cells] (.aM [aQ ec.cells (qd t),.int .i64 0]):=by
 refine cG.of aw (by simp[AV.dD,AV.cD,aE.cD]) (by show AV.cD (.aM [.aq .dead (qd t).length ((qd t).flatMap ec.cells),.int .i64 0])=true;simp[AV.cD,AV.dD,aan,Tok.free]) fun Q hQ=>?_
 refine au.mb ?_;refine S.aoI hT ?_;unfold S.f112;simp only[lu,bw,qT,aa];refine S.adv hT (Zf aw hT t h.ok fun H1=>?_);rw[h.zero];simp only[db,List.getElem?_cons_zero,List.getElem?_cons_succ,aa,bw,be,if_true];rw[fC _ _ _ 2 rfl rfl rfl];simp only[aa,eK,aD];rw[if_neg (by decide)];simp only[dt,qm,aa,eK,ck,aG];have hs:=sW h.snd;obtain⟨p,hp,hle,hlen⟩:=Mh h hk;have k2:S.MU (au C) (.av t.cells) (fun v H'=>Q v.mb H') [.bool false] (H1.push (.row [.int .i64 (bh t).1.1,.int .i64 (bh t).1.2])):=by
  simp only[S.MU,aA,aD,Bool.false_eq_true,if_false,aG,S.abU,qT,aa];refine S.abJ hT (aaf hT hs hk (fun f hf=>afJ aw hT f.type (sW (SR h hk hf).snd)) (fun f hf=>SU f.type (sW (SR h hk hf).snd)) (fun e=>by rw[hp]at e;cases e) fun q hq x H2 hx=>?_);rw[hp]at hq;cases hq;obtain⟨_,tk,rfl,_⟩:=hx;simp only[db,List.getElem?_cons_zero,List.getElem?_cons_succ,aa,bw,be,if_true];rw[fC _ _ _ 4 rfl rfl rfl];simp only[aa,ab,Nat.zero_add,jQ];rw[show cC [AV.int .i64 (dX p.size p.align),.int .i64 p.align,.aq tk p.gS.length (p.gS.flatMap ec.cells),.int .i64 p.bit] 2 1 false=some (.aq tk p.gS.length (p.gS.flatMap ec.cells))from rfl];simp only[aa,AV.mb,AV.lZ,ZU];have RF:qd t=p.gS:=by unfold qd;rw[hp]
  rw[RF]at hQ;exact hQ _
 rcases hk with hk|hk
 · rw[if_neg (by rw[hk];decide)];exact k2
 · rw[if_pos (by rw[hk];decide),show((t.kind != 4):Bool)=false by rw[hk];decide];exact k2
end
end Rb

namespace Rb
open Go
theorem alc{t:aE}{p:a_}{r:List a_}(h:(m_ t (p::r)).1=0):(fU t p).1=0∧(m_ (fU t p).2 r).1=0:=by
 rw[m_]at h;by_cases c:(fU t p).1≠0
 ·rw[if_pos c]at h;exact absurd h c
 ·rw[if_neg c]at h;exact⟨by omega,h⟩
section
variable{C:Ctx}(aw:dz C)(hT:Cl (au C) S.cH)
include aw hT
end
end Rb

namespace Rb
open Go
theorem aaH:∀(L:List (List UInt8×Int)) (k:Nat) (l:List UInt8×Int) (v:Int),L[k]?=some l→(L.flatMap JU).set (k*2+1) (.int .u64 v)=(L.set k (l.1,v)).flatMap JU
 |[],k,l,v,h=>by simp at h
 | x::r,0,l,v,h=>by simp at h;subst h;rfl
 | x::r,k+1,l,v,h=>by have:=aaH r k l v (by simpa using h);rw[show(k+1)*2+1=k*2+1+1+1 by omega,List.set_cons_succ,List.flatMap_cons,List.flatMap_cons,←this];rfl
section
variable{C:Ctx}(aw:dz C)(hT:Cl (au C) S.cH)
include aw hT
variable{vars:List aK}{s:RS}{lx px:AV}{H:AH}{id:Nat}{Q:ae}
end
theorem aed{s:RS}{name:List UInt8}{i:Nat}(hi:s.fq.findIdx? (fun l=>l.1==name)=some i):∃l,s.fq[i]?=some l∧l.1=name∧s.get name=l.2∧∀v,s.put name v={s with fq:=s.fq.set i (l.1,v)}:=by
 rcases BA (fun l:List UInt8×Int=>l.1==name) s.fq with⟨j,l,h1,h2,h3⟩|⟨h1,h2⟩
 · rw [hi]at h1;cases h1;have hn:l.1=name:=by
    have:=List.find?_some h2;simpa using this
   refine⟨l,h3,hn,by unfold RS.get;rw[h2],fun v=>?_⟩;unfold RS.put;rw[hi,hn]
 ·rw[hi]at h1;cases h1
theorem apV{L:List (List UInt8×Int)}{name:List UInt8}(h:name∈L.map (·.1)):∃i,L.findIdx? (fun l=>l.1==name)=some i:=by
 rcases BA (fun l:List UInt8×Int=>l.1==name) L with⟨j,l,h1,h2,h3⟩|⟨h1,h2⟩
 ·exact⟨j,h1⟩
 · rw[List.find?_eq_none]at h2;obtain⟨l,hl,rfl⟩:=List.mem_map.1 h;exact absurd (by simp) (h2 l hl)
theorem uE.put{H:AH}{id j m i:Nat}{L:List (List UInt8×Int)}{cs:List AV}{l:List UInt8×Int}(h2:j≠id)(h3:At H j (.row cs))(h4:cs.length=m*2)(h5:L.length≤m)(h6:cs.take (L.length*2)=L.flatMap JU)(hi:L[i]?=some l)(v:Int) :
  aH H 1 (.ptr j (i*2+1)) (.int .u64 v)=some (H.set j (.row (cs.set (i*2+1) (.int .u64 v))))∧uE (H.set j (.row (cs.set (i*2+1) (.int .u64 v)))) id (L.set i (l.1,v)) (.row j 0 L.length 2):=by
 have aO:=(List.getElem?_eq_some_iff.1 hi).1;refine⟨?_,.inr ⟨j,_,m,by simp,h2,h3.set _,by simpa using h4,by simpa using h5,?_⟩⟩
 ·rw[h3.store,if_pos ⟨rfl,rfl,rfl,by omega⟩];rfl
 ·rw[List.length_set,List.take_set,h6,aaH L i l v hi]
theorem uE.app{H:AH}{id:Nat}{L:List (List UInt8×Int)}{x:AV}(h:uE H id L x)(gC:id<H.n)(hl:L.length≤1000000)(name:List UInt8)(v:Int){K:ae}
  (hK:∀x' H',H.n≤H'.n→(∀j o,j≤id→(∀c d e,x ≠ .row j c d e)→At H j o→At H' j o)→uE H' id (L++[(name,v)]) x'→(∀c d e,x' ≠ .row id c d e)→x'.known=true→x'.cells=[x']→x'.scalar=true→(∀j c d e,x' = .row j c d e→(∃c' d' e',x = .row j c' d' e')∨H.n≤j)→(∀j o,(∀cs,o ≠ .row cs)→At H j o→At H' j o)→K x' H') :
  aJ (eF H true 2 24 x (.aq .full 1 [.str name,.int .u64 v])) K:=by
 have hy:mM H 2 (.aq .full 1 [.str name,.int .u64 v])=some (1,[.str name,.int .u64 v]):=rfl;rcases h with⟨rfl,rfl⟩|⟨j,cs,m,rfl,h2,h3,h4,h5,h6⟩
 · refine⟨.row H.n 0 1 2,H.push (.row [.str name,.int .u64 v]),rfl,?_⟩;refine hK _ _ (Nat.le_succ _) (fun j o _ _ h=>h.push _) (.inr ⟨H.n,_,1,rfl,by omega,At.new H _,rfl,Nat.le_refl _,rfl⟩) (fun c d e h=>?_) rfl rfl rfl (fun j c d e h=>?_) (fun j o _ h=>h.push _)
   ·simp only[AV.row.injEq]at h;omega
   ·simp only[AV.row.injEq]at h;right;omega
 · by_cases hc : L.length+1≤m
   · refine ⟨.row j 0 (L.length+1) 2,H.set j (.row (setCells cs (L.length*2) [.str name,.int .u64 v])),?_,?_⟩
     · simp only[eF,hy,h3.2];simp only[List.all_cons,List.all_nil,AV.scalar,Bool.and_true,not_true_eq_false,if_false];rw[if_neg (by decide),if_neg (by simp only[Decidable.not_not];exact⟨trivial,trivial,by omega,by omega⟩),if_pos (by omega)]
     · refine hK _ _ (Nat.le_refl _) (fun q o _ hn h=>h.dq (fun e=>hn 0 L.length 2 (by rw[e])) _) (.inr ⟨j,_,m,by simp,h2,h3.set _,?_,by simpa using hc,?_⟩) (fun c d e h=>?_) rfl rfl rfl (fun q c d e h=>?_) (fun q o ho h=>h.dq (fun e=>by subst e;exact ho cs (h.2.symm.trans h3.2)) _)
       · show((cs.set (L.length*2) (.str name)).set (L.length*2+1) (.int .u64 v)).length=_;simpa using h4
       · rw [List.length_append,List.length_singleton];show((cs.set (L.length*2) (.str name)).set (L.length*2+1) (.int .u64 v)).take ((L.length+1)*2)=_;have e1 : ((cs.set (L.length*2) (AV.str name)).set (L.length*2+1) (.int .u64 v)).take ((L.length+1)*2)=cs.take (L.length*2)++[.str name,.int .u64 v]:=by
          apply List.ext_getElem?;intro q;rw[List.getElem?_take];have jZ:(cs.take (L.length*2)).length=L.length*2:=by rw[List.length_take];omega
          by_cases hq:q<(L.length+1)*2
          · rw [if_pos hq,List.getElem?_set,List.getElem?_set];by_cases q1:L.length*2+1=q
            · subst q1;rw[if_pos rfl,if_pos (by simp;omega),List.getElem?_append_right (by omega),jZ];rw[show L.length*2+1-L.length*2=1 by omega];rfl
            · rw [if_neg q1];by_cases q2:L.length*2=q
              · subst q2;rw[if_pos rfl,if_pos (by omega),List.getElem?_append_right (by omega),jZ,Nat.sub_self];rfl
              ·rw[if_neg q2,List.getElem?_append_left (by omega),List.getElem?_take,if_pos (by omega)]
          ·rw[if_neg hq,List.getElem?_eq_none (by simp[jZ];omega)]
         rw[e1,h6,List.flatMap_append];rfl
       ·simp only[AV.row.injEq]at h;exact h2 h.1
       ·simp only[AV.row.injEq]at h;exact .inl ⟨0,L.length,2,by rw[h.1]⟩
   · have zC:cs.length=L.length*2:=by omega
     refine⟨.row H.n 0 (L.length+1) 2,(H.set j .gone).push (.row (cs++[.str name,.int .u64 v])),?_,?_⟩
     · simp only[eF,hy,h3.2];simp only[List.all_cons,List.all_nil,AV.scalar,Bool.and_true,not_true_eq_false,if_false];rw[if_neg (by decide),if_neg (by simp only[Decidable.not_not];exact⟨trivial,trivial,by omega,by omega⟩),if_neg (by omega),if_pos (by omega)]
     · refine hK _ _ (Nat.le_succ _) (fun q o _ hn h=>(h.dq (fun e=>hn 0 L.length 2 (by rw[e])) _).push _) (.inr ⟨H.n,_,L.length+1,by simp,by omega,At.new (H.set j .gone) _,by simp[zC];omega,by simp,?_⟩) (fun c d e h=>?_) rfl rfl rfl (fun q c d e h=>?_) (fun q o ho h=>(h.dq (fun e=>by subst e;exact ho cs (h.2.symm.trans h3.2)) _).push _)
       · rw[List.length_append,List.length_singleton,List.take_of_length_le (by simp[zC];omega)];rw[←zC,List.take_length]at h6;rw[h6,List.flatMap_append];rfl
       ·simp only[AV.row.injEq]at h;omega
       ·simp only[AV.row.injEq]at h;right;omega
end Rb

namespace Rb
open Go
section
variable{α:Type}{cells:α→List AV}{sz:Nat}(hc:∀x,(cells x).length=sz)
include hc
theorem aca:∀(xs:List α)(k:Nat),(xs.flatMap cells).take (k*sz)=(xs.take k).flatMap cells
 |[],k=>by simp
 |x::r,0=>by simp
 | x::r,k+1=>by rw[List.flatMap_cons,List.take_succ_cons,List.flatMap_cons,show(k+1)*sz=(cells x).length+k*sz by rw[hc,Nat.add_mul];omega,List.take_length_add_append,aca r k]
theorem TN:∀(xs:List α)(k:Nat),(xs.flatMap cells).drop (k*sz)=(xs.drop k).flatMap cells
 |[],k=>by simp
 |x::r,0=>by simp
 | x::r,k+1=>by rw[List.flatMap_cons,List.drop_succ_cons,show(k+1)*sz=(cells x).length+k*sz by rw[hc,Nat.add_mul];omega,List.drop_length_add_append,TN r k]
end
theorem cM.left{id:Nat}{H0 H H':AH}(h:cM id H0 H)(k:Left H0.n H H'):cM id H0 H':=⟨Nat.le_trans h.1 k.1,fun j o hj ho=>k.2 j o (h.2 j o hj ho) (.inl ho.1)⟩
mutual
def Zc(L:List (List UInt8)):aF→Prop
 | .mk kind n name op order place kids=>(kind=2→name∈L)∧(kind=3→kids.length=2)∧kids.length≤2∧(kind≠1∧kind≠2∧kind≠3→G_ L place)∧y9 L kids
def y9(L:List (List UInt8)):List aF→Prop
 |[]=>True
 |e::r=>Zc L e∧y9 L r
def G_(L:List (List UInt8)):aT→Prop
 | .mk var parts=>Q3 L parts
def Q3(L:List (List UInt8)):List a_→Prop
 |[]=>True
 |p::r=>Zd L p∧Q3 L r
def Zd(L:List (List UInt8)):a_→Prop
 | .mk field index=>y9 L index
end
structure vC(H:AH)(id:Nat)(vars:List aK)(L:List (List UInt8))(s:RS)(lx px:AV):Prop where
 row:At H id (.row (RY vars s lx px))
 loc:uE H id s.fq lx
 ok:s.ok
 len:s.fq.length≤1000000
 nm:s.stop=false→s.fq.map (·.1)=L
 fl:s.stop=false→0≤s.fuel∧s.fuel+s.fq.length≤1000000∧s.fuel+s.pr.length≤1000000
 pl:s.pr.length≤1000000
theorem vC.aY{H H':AH}{id:Nat}{vars:List aK}{L:List (List UInt8)}{s:RS}{lx px:AV}(h:vC H id vars L s lx px)(k:cM id H H')(hr:At H' id (.row (RY vars s lx px))):vC H' id vars L s lx px:=⟨hr,h.loc.aY k,h.ok,h.len,h.nm,h.fl,h.pl⟩
theorem vC.next{H H':AH}{id:Nat}{vars:List aK}{L:List (List UInt8)}{s s':RS}{lx px:AV}(h:vC H id vars L s lx px)(k:cM id H H')(hr:At H' id (.row (RY vars s' lx px)))(hk:Kp s s')(ho:s'.ok):vC H' id vars L s' lx px:=
 ⟨hr,by rw[hk.fq];exact h.loc.aY k,ho,by rw[hk.fq];exact h.len,fun e=>by rw[hk.fq];exact h.nm (hk.stop e),fun e=>by have h1:=h.fl (hk.stop e);have h2:=hk.fu h1.1 (by omega) e;rw[hk.fq,hk.pr];exact⟨h2.1,by omega,by omega⟩,by rw[hk.pr];exact h.pl⟩
section
variable{C:Ctx}(aw:dz C)(hT:Cl (au C) S.cH){id:Nat}{vars:List aK}{L:List (List UInt8)}
include aw hT
end
end Rb

namespace Rb
open Go
section
variable{C:Ctx}(aw:dz C)(hT:Cl (au C) S.cH){id:Nat}{vars:List aK}{L:List (List UInt8)}
include aw hT
end
end Rb

namespace Rb
open Go
section
variable{C:Ctx}(aw:dz C)(hT:Cl (au C) S.cH){id:Nat}{vars:List aK}{L:List (List UInt8)}
include aw hT
end
end Rb

namespace Rb
open Go
section
variable{C:Ctx}(aw:dz C)(hT:Cl (au C) S.cH){id:Nat}{vars:List aK}{L:List (List UInt8)}
include aw hT
end
end Rb

namespace Rb
open Go
section
variable{C:Ctx}(aw:dz C)(hT:Cl (au C) S.cH){id:Nat}{vars:List aK}{L:List (List UInt8)}
include aw hT
end
end Rb

namespace Rb
open Go
section
variable(vars:List aK)
variable(c:Nat)
end
def jA(L:List (List UInt8))(x:aC):List (List UInt8):=if x.kind=1 then L++[x.name]else L
mutual
def Ze(L:List (List UInt8)):aC→Prop
 | .mk kind line name cW order place exprs aZ bz=>(kind=2→name∈L)∧(kind=5→name∈L∧cW∈L)∧(3≤kind∧kind≤6→G_ L place)∧exprs.length≤2∧(¬(3≤kind∧kind≤7)→1≤exprs.length)∧y9 L exprs∧zW L aZ∧zW L bz
def zW(L:List (List UInt8)):List aC→Prop
 |[]=>True
 |x::r=>Ze L x∧zW (jA L x) r
end
def zg(id:Nat)(H H':AH):Prop:=H.n≤H'.n∧∀j o,j<id→At H j o→At H' j o
theorem zg.refl(id:Nat)(H:AH):zg id H H:=⟨Nat.le_refl _,fun _ _ _ h=>h⟩
theorem zg.trans{id:Nat}{a b c:AH}(h:zg id a b)(k:zg id b c):zg id a c:=⟨Nat.le_trans h.1 k.1,fun j o hj ho=>k.2 j o hj (h.2 j o hj ho)⟩
theorem cM.fr{id:Nat}{a b:AH}(h:cM id a b):zg id a b:=⟨h.1,fun j o hj ho=>h.2 j o (Nat.ne_of_lt hj) ho⟩
theorem zg.set{id j:Nat}{a:AH}(hj:id≤j)(x:dc):zg id a (a.set j x):=⟨Nat.le_refl _,fun i o hi ho=>ho.dq (by omega) x⟩
structure Fw(H:AH)(id:Nat)(vars:List aK)(L:List (List UInt8))(s:RS)(lx px:AV):Prop where
 m:vC H id vars L s lx px
 p:cU (id+1) H 1 px s.pr.length (s.pr.map (AV.int .u64))
 lj:∀j c d e,lx = .row j c d e→id<j
theorem cU.avC{id:Nat}{H H':AH}{sz len:Nat}{x:AV}{cells:List AV}(h:cU (id+1) H sz x len cells)(k:cM id H H'):cU (id+1) H' sz x len cells:=by
 obtain⟨tk,hx,hc,ht⟩:=h;refine⟨tk,hx,hc,?_⟩;rcases ht with ht|ht|⟨t,h1,h2,h3⟩
 ·exact .inl ht
 ·exact .inr (.inl ht)
 ·exact .inr (.inr ⟨t,h1,h2,k.2 t _ (by omega) h3⟩)
theorem Fw.kp{H H':AH}{id:Nat}{vars:List aK}{L L':List (List UInt8)}{s s':RS}{lx px:AV}(h:Fw H id vars L s lx px)(k:cM id H H')(h':vC H' id vars L' s' lx px)(hp:s'.pr=s.pr):Fw H' id vars L' s' lx px:=⟨h',by rw[hp];exact cU.avC h.p k,h.lj⟩
theorem vC.over{H:AH}{id:Nat}{vars:List aK}{L L':List (List UInt8)}{s:RS}{lx px:AV}(h:vC H id vars L s lx px)(hs:s.stop=true):vC H id vars L' s lx px:=⟨h.row,h.loc,h.ok,h.len,fun e=>(by rw[hs]at e;cases e),h.fl,h.pl⟩
theorem Fw.over{H:AH}{id:Nat}{vars:List aK}{L L':List (List UInt8)}{s:RS}{lx px:AV}(h:Fw H id vars L s lx px)(hs:s.stop=true):Fw H id vars L' s lx px:=⟨h.m.over hs,h.p,h.lj⟩
end Rb

namespace Rb
open Go
theorem jj{s:aS}{ok:Bool}{e:Int}(h:(s.cZ ok e).aV=0)(he:e≠0):s.aV=0∧ok=true:=by
 unfold aS.cZ at h;split at h
 ·exact absurd h he
 · rename_i q;refine⟨h,?_⟩;cases ok
   ·exact absurd ⟨rfl,h⟩ q
   ·rfl
theorem iH(s:aS)(ok:Bool)(e:Int):(s.cZ ok e).locals=s.locals:=by unfold aS.cZ;split<;>rfl
theorem Ac{s:aS}{x:List UInt8}(h:s.has x=true):x∈s.locals:=by
 unfold aS.has at h;obtain⟨y,hy,e⟩:=List.any_eq_true.1 h;have:x=y:=by simpa using e
 rw[this];exact hy
theorem Z9{s:aS}{d:Int}{e:aF}(h:(f_ s d e).aV=0):s.aV=0∧kM e=true:=by unfold f_ at h;have h1:=jj h (by decide);have h2:=jj h1.1 (by decide);have h3:=jj h2.1 (by decide);exact⟨h3.1,h2.2⟩
theorem LQ(s:aS)(d:Int)(e:aF):(f_ s d e).locals=s.locals:=by unfold f_;rw[iH,iH,iH]
theorem Z_{s:aS}{d:Int}{e:aC}(h:(ib s d e).aV=0):s.aV=0∧ly e=true:=by unfold ib at h;have h1:=jj h (by decide);have h2:=jj h1.1 (by decide);have h3:=jj h2.1 (by decide);exact⟨h3.1,h2.2⟩
theorem Hk(s:aS)(d:Int)(e:aC):(ib s d e).locals=s.locals:=by unfold ib;rw[iH,iH,iH]
section
variable(vars:List aK)
theorem Zy(s:aS)(k:Int)(x:aT):(qS vars s k x).locals=s.locals:=by unfold qS;dsimp only;rw[iH,iH]
theorem ak5{kind n:Int}{name:List UInt8}{op order:Int}{place:aT}{kids:List aF}(h:kM (.mk kind n name op order place kids)=true):1≤kind∧kind≤8∧kids.length≤2∧(kind=3→kids.length=2):=by
 unfold kM at h;simp only[Bool.and_eq_true,decide_eq_true_eq]at h;obtain⟨⟨⟨⟨⟨⟨h1,h2⟩,_⟩,_⟩,_⟩,_⟩,h7⟩:=h;have h7:((kids.length:Int))=(ni kind).1:=by simpa using h7
 have h1:1≤kind:=h1;have h2:kind≤8:=h2;unfold ni at h7;refine⟨h1,h2,?_,fun e=>?_⟩
 · split at h7
   ·dsimp only at h7;omega
   · split at h7
     ·dsimp only at h7;omega
     · split at h7
       ·dsimp only at h7;omega
       · split at h7
         ·dsimp only at h7;omega
         ·dsimp only at h7;omega
 ·rw[if_pos e]at h7;dsimp only at h7;omega
mutual
theorem adE:∀(e:aF)(s:aS)(d:Int),(qD vars s d e).aV=0→s.aV=0∧(qD vars s d e).locals=s.locals∧Zc s.locals e
 | .mk kind n name op order place kids,s,d,h=>by
  rw[qD]at h ⊢;by_cases hh:(f_ s d (.mk kind n name op order place kids)).aV≠0
  ·rw[if_pos hh]at h;exact absurd h hh
  · rw [if_neg hh]at h ⊢;have hz:(f_ s d (.mk kind n name op order place kids)).aV=0:=by simpa using hh
    have hl:=LQ s d (.mk kind n name op order place kids);obtain⟨z1,z2⟩:=Z9 hz;obtain⟨f1,f2,f3,f4⟩:=ak5 z2;obtain⟨e1,e2,e3⟩:=MM kids _ d h;rw[e2];rw[Zc];by_cases hk:kind≥4
    · rw[if_pos hk,if_neg (show ¬kind=2 by omega)]at e1 e2 e3 ⊢;obtain⟨p1,p2,p3⟩:=afL place _ _ d e1;rw[p2,hl]at e3 ⊢;rw[hl]at p3;exact⟨z1,rfl,fun e=>absurd e (by omega),f4,f3,fun _=>p3,e3⟩
    · rw [if_neg hk]at e1 e2 e3 ⊢;by_cases h2:kind=2
      · rw[if_pos h2]at e1 e2 e3 ⊢;rw[iH,hl]at e3 ⊢;have:=Ac (jj e1 (by decide)).2;rw[hl]at this;exact⟨z1,rfl,fun _=>this,f4,f3,fun q=>absurd q (by omega),e3⟩
      · rw[if_neg h2,hl]at e3 ⊢;exact⟨z1,rfl,fun e=>absurd e h2,f4,f3,fun q=>absurd q (by omega),e3⟩
theorem MM:∀(l:List aF)(s:aS)(d:Int),(eH vars s d l).aV=0→s.aV=0∧(eH vars s d l).locals=s.locals∧y9 s.locals l
 |[],s,d,h=>by rw[eH]at h ⊢;exact⟨h,rfl,trivial⟩
 | e :: r,s,d,h=>by
  rw[eH]at h ⊢;obtain⟨e1,e2,e3⟩:=MM r _ d h;by_cases hs:s.aV≠0
  ·rw[if_pos hs]at e1;exact absurd e1 hs
  · rw[if_neg hs]at e1 e2 e3 ⊢;obtain⟨q1,q2,q3⟩:=adE e s _ e1;rw[e2,q2];rw[q2]at e3;rw[y9];exact⟨q1,rfl,q3,e3⟩
theorem afL:∀(x:aT)(s:aS)(k d:Int),(mI vars s k d x).aV=0→s.aV=0∧(mI vars s k d x).locals=s.locals∧G_ s.locals x
 | .mk var parts,s,k,d,h=>by
  rw[mI]at h ⊢;by_cases hs:s.aV≠0
  ·rw[if_pos hs]at h;exact absurd h hs
  · rw[if_neg hs]at h ⊢;obtain⟨e1,e2,e3⟩:=ac4 parts _ d h;rw[Zy]at e2 e3;rw[G_];exact⟨by simpa using hs,e2,e3⟩
theorem ac4:∀(l:List a_)(s:aS)(d:Int),(iZ vars s d l).aV=0→s.aV=0∧(iZ vars s d l).locals=s.locals∧Q3 s.locals l
 |[],s,d,h=>by rw[iZ]at h ⊢;exact⟨h,rfl,trivial⟩
 | p::r,s,d,h=>by rw[iZ]at h ⊢;obtain⟨e1,e2,e3⟩:=ac4 r _ d h;obtain⟨q1,q2,q3⟩:=aua p s d e1;rw[e2,q2];rw[q2]at e3;rw[Q3];exact⟨q1,rfl,q3,e3⟩
theorem aua:∀(p:a_)(s:aS)(d:Int),(uf vars s d p).aV=0→s.aV=0∧(uf vars s d p).locals=s.locals∧Zd s.locals p
 | .mk field index,s,d,h=>by rw[uf]at h ⊢;rw[Zd];exact ace index s d h
theorem ace:∀(l:List aF)(s:aS)(d:Int),(kK vars s d l).aV=0→s.aV=0∧(kK vars s d l).locals=s.locals∧y9 s.locals l
 |[],s,d,h=>by rw[kK]at h ⊢;exact⟨h,rfl,trivial⟩
 | e::r,s,d,h=>by rw[kK]at h ⊢;obtain⟨e1,e2,e3⟩:=ace r _ d h;obtain⟨q1,q2,q3⟩:=adE e s _ e1;rw[e2,q2];rw[q2]at e3;rw[y9];exact⟨q1,rfl,q3,e3⟩
end
variable(kw:List UInt8→Bool)
theorem anI{s:aS}{d:Int}{x:aC}(h:(gz vars kw s d x).aV=0):s.aV=0∧(gz vars kw s d x).locals=s.locals∧(x.kind=2→x.name∈s.locals)∧(3≤x.kind∧x.kind≤6→G_ s.locals x.place):=by
 unfold gz at h ⊢;by_cases h1:x.kind=1
 · rw[if_pos h1]at h ⊢;rw[iH,iH,iH];have z1:=jj h (by decide);have z2:=jj z1.1 (by decide);have z3:=jj z2.1 (by decide);exact⟨z3.1,rfl,fun e=>by omega,fun e=>by omega⟩
 · rw [if_neg h1]at h ⊢;by_cases h2:x.kind=2
   · rw[if_pos h2]at h ⊢;rw[iH];have z1:=jj h (by decide);exact⟨z1.1,rfl,fun _=>Ac z1.2,fun e=>by omega⟩
   · rw [if_neg h2]at h ⊢;by_cases h3:x.kind=3∨x.kind=4∨x.kind=5∨x.kind=6
     · rw[if_pos h3]at h ⊢;obtain⟨p1,p2,p3⟩:=afL vars x.place s _ d h;exact⟨p1,p2,fun e=>absurd e h2,fun _=>p3⟩
     · rw[if_neg h3]at h ⊢;exact⟨h,rfl,fun e=>absurd e h2,fun e=>by omega⟩
theorem aqj{s:aS}{x:aC}(h:(lA s x).aV=0):s.aV=0∧(lA s x).locals=jA s.locals x∧(x.kind=5→x.name∈s.locals∧x.cW∈s.locals):=by
 unfold lA at h ⊢;unfold jA;by_cases h1:x.kind=1
 · rw[if_pos h1]at h ⊢;rw[if_pos h1];exact⟨h,rfl,fun e=>by omega⟩
 · rw [if_neg h1]at h ⊢;rw[if_neg h1];by_cases h5:x.kind=5
   · rw[if_pos h5]at h ⊢;rw[iH,iH,iH];have z1:=jj h (by decide);have z2:=jj z1.1 (by decide);have z3:=jj z2.1 (by decide);refine⟨z3.1,rfl,fun _=>⟨Ac z3.2,?_⟩⟩;exact Ac z2.2
   · rw[if_neg h5]at h ⊢;exact⟨h,rfl,fun e=>absurd e h5⟩
theorem Z7{x:aC}(h:ly x=true):1≤x.kind∧x.kind≤10∧x.exprs.length≤2∧(¬(3≤x.kind∧x.kind≤7)→1≤x.exprs.length)∧(x.kind=1→x.aZ=[]∧x.bz=[]):=by
 unfold ly at h;simp only[Bool.and_eq_true,decide_eq_true_eq,Bool.or_eq_true,beq_iff_eq]at h;obtain⟨⟨⟨⟨⟨⟨⟨h1,h2⟩,_⟩,_⟩,_⟩,h6⟩,h7⟩,h8⟩:=h;unfold iO at h6 h7 h8;refine⟨h1,h2,?_,fun e=>?_,fun e=>?_⟩
 · repeat' split at h6
   all_goals (dsimp only at h6;omega)
 · repeat' split at h6
   all_goals (dsimp only at h6;omega)
 · rw[if_pos (.inl e)]at h7 h8;simp at h7 h8;exact⟨h7,h8⟩
theorem aov{s:aS}{d:Int}{x:aC}(h:(fm vars kw s d x).aV=0):s.aV=0∧(fm vars kw s d x).locals=jA s.locals x∧ly x=true∧(x.kind=2→x.name∈s.locals)∧(x.kind=5→x.name∈s.locals∧x.cW∈s.locals)∧(3≤x.kind∧x.kind≤6→G_ s.locals x.place)∧y9 s.locals x.exprs:=by unfold fm at h ⊢;obtain⟨r1,r2,r3⟩:=aqj h;obtain⟨e1,e2,e3⟩:=MM vars x.exprs _ d r1;obtain⟨f1,f2,f3,f4⟩:=anI vars kw e1;obtain⟨z1,z2⟩:=Z_ f1;rw[f2,Hk]at e2 e3;rw[Hk]at f3 f4;rw[e2]at r2 r3;exact⟨z1,r2,z2,f3,r3,f4,e3⟩
theorem abu(L:List (List UInt8))(x:aC){n:Nat}(h:n≤L.length):(jA L x).take n=L.take n∧n≤(jA L x).length:=by
 unfold jA;split
 ·exact⟨by rw[List.take_append_of_le_length h],by rw[List.length_append];omega⟩
 ·exact⟨rfl,h⟩
mutual
theorem aum:∀(x:aC)(s:aS)(d:Int),(stM vars kw s d x).aV=0→s.aV=0∧(stM vars kw s d x).locals=jA s.locals x∧Ze s.locals x
 | .mk kind line name cW order place exprs aZ bz,s,d,h=>by
  rw[stM]at h ⊢;obtain⟨b1,b2,b3⟩:=HZ bz _ _ _ (Nat.le_refl _) h;obtain⟨a1,a2,a3⟩:=HZ aZ _ _ _ (Nat.le_refl _) b1;have XB:=b2.trans (show(List.take _ _)=_ from List.take_length);obtain⟨c1,c2,c3,c4,c5,c6,c7⟩:=aov vars kw a1;have Kt:(iJ vars kw (fm vars kw s d (.mk kind line name cW order place exprs aZ bz)) (fm vars kw s d (.mk kind line name cW order place exprs aZ bz)).locals.length (aR (d+1)) aZ).locals=jA s.locals (.mk kind line name cW order place exprs aZ bz):=by rw[a2,List.take_length,c2]
  have C8:zW (iJ vars kw (fm vars kw s d (.mk kind line name cW order place exprs aZ bz)) (fm vars kw s d (.mk kind line name cW order place exprs aZ bz)).locals.length (aR (d+1)) aZ).locals bz:=b3;rw[Kt]at C8;rw[c2]at a3;obtain⟨g1,g2,g3,g4,g5⟩:=Z7 c3;refine⟨c1,XB.trans Kt,?_⟩;rw[Ze];refine⟨c4,c5,c6,g3,g4,c7,?_,?_⟩
  · by_cases hk:kind=1
    · have:aZ=[]:=(g5 hk).1;subst this;rw[zW];trivial
    · have e:jA s.locals (.mk kind line name cW order place exprs aZ bz)=s.locals:=by unfold jA;rw[if_neg hk]
      rw[e]at a3;exact a3
  · by_cases hk:kind=1
    · have:bz=[]:=(g5 hk).2;subst this;rw[zW];trivial
    · have e:jA s.locals (.mk kind line name cW order place exprs aZ bz)=s.locals:=by unfold jA;rw[if_neg hk]
      rw[e]at C8;exact C8
theorem HZ:∀(l:List aC)(s:aS)(n:Nat)(d:Int),n≤s.locals.length→(iJ vars kw s n d l).aV=0→s.aV=0∧(iJ vars kw s n d l).locals=s.locals.take n∧zW s.locals l
 |[],s,n,d,hn,h=>by rw[iJ]at h ⊢;rw[zW];exact⟨h,rfl,trivial⟩
 | x :: r,s,n,d,hn,h=>by
  rw[iJ]at h ⊢;by_cases hs:s.aV≠0
  ·rw[if_pos hs,vj vars kw hs]at h;exact absurd h hs
  · rw [if_neg hs]at h ⊢;have hz:(stM vars kw (s.at x.line) d x).aV=0:=by
     by_cases q:(stM vars kw (s.at x.line) d x).aV=0
     ·exact q
     ·rw[vj vars kw q]at h;exact absurd h q
    obtain⟨q1,q2,q3⟩:=aum x (s.at x.line) d hz;have q2:(stM vars kw (s.at x.line) d x).locals=jA s.locals x:=q2;obtain⟨t1,t2⟩:=abu s.locals x hn;obtain⟨r1,r2,r3⟩:=HZ r (stM vars kw (s.at x.line) d x) n d (by rw[q2];exact t2) h;rw[q2]at r2 r3;rw[zW];exact⟨by simpa using hs,r2.trans t1,q3,r3⟩
end
end
end Rb

namespace Rb
open Go
section
variable(vars:List aK)
mutual
def vE(L:List (List UInt8)):aF→Prop
 | .mk kind n name op order place kids=>kM (.mk kind n name op order place kids)=true∧kP (aR (10+kind)) order=true∧(kind=2→name∈L)∧(kind≥4→vP L (aR (10+kind)) place)∧rM L kids
def rM(L:List (List UInt8)):List aF→Prop
 |[]=>True
 |e::r=>vE L e∧rM L r
def vP(L:List (List UInt8))(k:Int):aT→Prop
 | .mk var parts=>(dm vars (.mk var parts)).1=0∧mO k (dm vars (.mk var parts)).2=true∧Bo L parts
def Bo(L:List (List UInt8)):List a_→Prop
 |[]=>True
 |p::r=>vR L p∧Bo L r
def vR(L:List (List UInt8)):a_→Prop
 | .mk field index=>rM L index
end
mutual
def vS(L:List (List UInt8)):aC→Prop
 | .mk kind line name cW order place exprs aZ bz=>ly (.mk kind line name cW order place exprs aZ bz)=true∧kP kind order=true∧(kind=1→name∉L)∧(kind=2→name∈L)∧(kind=5→name∈L∧cW∈L∧name≠cW)∧(3≤kind∧kind≤6→vP vars L kind place)∧rM vars L exprs∧vB L aZ∧vB L bz
def vB(L:List (List UInt8)):List aC→Prop
 |[]=>True
 |x::r=>vS L x∧vB (jA L x) r
end
theorem avZ(L:List (List UInt8))(e:aF):vE vars L e↔kM e=true∧kP (aR (10+e.kind)) e.order=true∧(e.kind=2→e.name∈L)∧(e.kind≥4→vP vars L (aR (10+e.kind)) e.place)∧rM vars L e.kids:=by cases e;rw[vE]
theorem Fm(L:List (List UInt8))(k:Int)(x:aT):vP vars L k x↔(dm vars x).1=0∧mO k (dm vars x).2=true∧Bo vars L x.parts:=by cases x;rw[vP]
theorem av0(L:List (List UInt8))(p:a_):vR vars L p↔rM vars L p.index:=by cases p;rw[vR]
theorem av1(L:List (List UInt8))(x:aC):vS vars L x↔ly x=true∧kP x.kind x.order=true∧(x.kind=1→x.name∉L)∧(x.kind=2→x.name∈L)∧(x.kind=5→x.name∈L∧x.cW∈L∧x.name≠x.cW)∧(3≤x.kind∧x.kind≤6→vP vars L x.kind x.place)∧rM vars L x.exprs∧vB vars L x.aZ∧vB vars L x.bz:=by cases x;rw[vS]
theorem ale{s:aS}{k:Int}{x:aT}(h:(qS vars s k x).aV=0):(dm vars x).1=0∧mO k (dm vars x).2=true:=by
 unfold qS at h;dsimp only at h;have h1:=jj h (by decide);refine⟨?_,?_⟩
 · by_cases hp:(dm vars x).1=0
   ·exact hp
   · have:=(jj h1.1 hp).2;simpa using this
 · have h2:=h1.2;rw[h1.1]at h2;simpa using h2
theorem ak9{s:aS}{d:Int}{e:aF}(h:(f_ s d e).aV=0):kP (aR (10+e.kind)) e.order=true:=by unfold f_ at h;exact(jj h (by decide)).2
theorem ak_{s:aS}{d:Int}{x:aC}(h:(ib s d x).aV=0):kP x.kind x.order=true:=by unfold ib at h;exact(jj h (by decide)).2
theorem apW{s:aS}{x:List UInt8}(h:(!s.has x)=true):x∉s.locals:=by
 intro hx;have:s.has x=true:=by unfold aS.has;rw[List.any_eq_true];exact⟨x,hx,by simp⟩
 rw[this]at h;cases h
mutual
theorem af2:∀(e:aF)(s:aS)(d:Int),(qD vars s d e).aV=0→s.aV=0∧(qD vars s d e).locals=s.locals∧vE vars s.locals e
 | .mk kind n name op order place kids,s,d,h=>by
  rw[qD]at h ⊢;by_cases hh:(f_ s d (.mk kind n name op order place kids)).aV≠0
  ·rw[if_pos hh]at h;exact absurd h hh
  · rw [if_neg hh]at h ⊢;have hz:(f_ s d (.mk kind n name op order place kids)).aV=0:=by simpa using hh
    have hl:=LQ s d (.mk kind n name op order place kids);obtain⟨z1,z2⟩:=Z9 hz;have z3:=ak9 hz;obtain⟨e1,e2,e3⟩:=Uu kids _ d h;rw[e2];rw[vE];by_cases hk:kind≥4
    · rw[if_pos hk,if_neg (show ¬kind=2 by omega)]at e1 e2 e3 ⊢;obtain⟨p1,p2,p3⟩:=agA place _ _ d e1;rw[p2,hl]at e3 ⊢;rw[hl]at p3;exact⟨z1,rfl,z2,z3,fun q=>absurd q (by omega),fun _=>p3,e3⟩
    · rw [if_neg hk]at e1 e2 e3 ⊢;by_cases h2:kind=2
      · rw[if_pos h2]at e1 e2 e3 ⊢;rw[iH,hl]at e3 ⊢;have:=Ac (jj e1 (by decide)).2;rw[hl]at this;exact⟨z1,rfl,z2,z3,fun _=>this,fun q=>absurd q (by omega),e3⟩
      · rw[if_neg h2,hl]at e3 ⊢;exact⟨z1,rfl,z2,z3,fun e=>absurd e h2,fun q=>absurd q (by omega),e3⟩
theorem Uu:∀(l:List aF)(s:aS)(d:Int),(eH vars s d l).aV=0→s.aV=0∧(eH vars s d l).locals=s.locals∧rM vars s.locals l
 |[],s,d,h=>by rw[eH]at h ⊢;exact⟨h,rfl,trivial⟩
 | e :: r,s,d,h=>by
  rw[eH]at h ⊢;obtain⟨e1,e2,e3⟩:=Uu r _ d h;by_cases hs:s.aV≠0
  ·rw[if_pos hs]at e1;exact absurd e1 hs
  · rw[if_neg hs]at e1 e2 e3 ⊢;obtain⟨q1,q2,q3⟩:=af2 e s _ e1;rw[e2,q2];rw[q2]at e3;rw[rM];exact⟨q1,rfl,q3,e3⟩
theorem agA:∀(x:aT)(s:aS)(k d:Int),(mI vars s k d x).aV=0→s.aV=0∧(mI vars s k d x).locals=s.locals∧vP vars s.locals k x
 | .mk var parts,s,k,d,h=>by
  rw[mI]at h ⊢;by_cases hs:s.aV≠0
  ·rw[if_pos hs]at h;exact absurd h hs
  · rw[if_neg hs]at h ⊢;obtain⟨e1,e2,e3⟩:=afO parts _ d h;obtain⟨f1,f2⟩:=ale vars e1;rw[Zy]at e2 e3;rw[vP];exact⟨by simpa using hs,e2,f1,f2,e3⟩
theorem afO:∀(l:List a_)(s:aS)(d:Int),(iZ vars s d l).aV=0→s.aV=0∧(iZ vars s d l).locals=s.locals∧Bo vars s.locals l
 |[],s,d,h=>by rw[iZ]at h ⊢;exact⟨h,rfl,trivial⟩
 | p::r,s,d,h=>by rw[iZ]at h ⊢;obtain⟨e1,e2,e3⟩:=afO r _ d h;obtain⟨q1,q2,q3⟩:=avI p s d e1;rw[e2,q2];rw[q2]at e3;rw[Bo];exact⟨q1,rfl,q3,e3⟩
theorem avI:∀(p:a_)(s:aS)(d:Int),(uf vars s d p).aV=0→s.aV=0∧(uf vars s d p).locals=s.locals∧vR vars s.locals p
 | .mk field index,s,d,h=>by rw[uf]at h ⊢;rw[vR];exact aef index s d h
theorem aef:∀(l:List aF)(s:aS)(d:Int),(kK vars s d l).aV=0→s.aV=0∧(kK vars s d l).locals=s.locals∧rM vars s.locals l
 |[],s,d,h=>by rw[kK]at h ⊢;exact⟨h,rfl,trivial⟩
 | e::r,s,d,h=>by rw[kK]at h ⊢;obtain⟨e1,e2,e3⟩:=aef r _ d h;obtain⟨q1,q2,q3⟩:=af2 e s _ e1;rw[e2,q2];rw[q2]at e3;rw[rM];exact⟨q1,rfl,q3,e3⟩
end
variable(kw:List UInt8→Bool)
theorem apF{s:aS}{d:Int}{x:aC}(h:(gz vars kw s d x).aV=0):s.aV=0∧(gz vars kw s d x).locals=s.locals∧(x.kind=1→x.name∉s.locals)∧(x.kind=2→x.name∈s.locals)∧(3≤x.kind∧x.kind≤6→vP vars s.locals x.kind x.place):=by
 unfold gz at h ⊢;by_cases h1:x.kind=1
 · rw[if_pos h1]at h ⊢;rw[iH,iH,iH];have z1:=jj h (by decide);have z2:=jj z1.1 (by decide);have z3:=jj z2.1 (by decide);refine⟨z3.1,rfl,fun _=>?_,fun e=>by omega,fun e=>by omega⟩;have:=apW z2.2;exact this
 · rw [if_neg h1]at h ⊢;by_cases h2:x.kind=2
   · rw[if_pos h2]at h ⊢;rw[iH];have z1:=jj h (by decide);exact⟨z1.1,rfl,fun e=>absurd e h1,fun _=>Ac z1.2,fun e=>by omega⟩
   · rw [if_neg h2]at h ⊢;by_cases h3:x.kind=3∨x.kind=4∨x.kind=5∨x.kind=6
     · rw[if_pos h3]at h ⊢;obtain⟨p1,p2,p3⟩:=agA vars x.place s _ d h;exact⟨p1,p2,fun e=>absurd e h1,fun e=>absurd e h2,fun _=>p3⟩
     · rw[if_neg h3]at h ⊢;exact⟨h,rfl,fun e=>absurd e h1,fun e=>absurd e h2,fun e=>by omega⟩
theorem auc{s:aS}{x:aC}(h:(lA s x).aV=0):s.aV=0∧(lA s x).locals=jA s.locals x∧(x.kind=5→x.name∈s.locals∧x.cW∈s.locals∧x.name≠x.cW):=by
 unfold lA at h ⊢;unfold jA;by_cases h1:x.kind=1
 · rw[if_pos h1]at h ⊢;rw[if_pos h1];exact⟨h,rfl,fun e=>by omega⟩
 · rw [if_neg h1]at h ⊢;rw[if_neg h1];by_cases h5:x.kind=5
   · rw [if_pos h5]at h ⊢;rw[iH,iH,iH];have z1:=jj h (by decide);have z2:=jj z1.1 (by decide);have z3:=jj z2.1 (by decide);refine⟨z3.1,rfl,fun _=>⟨Ac z3.2,?_,?_⟩⟩
     ·exact Ac z2.2
     · have:=z1.2;simpa using this
   · rw[if_neg h5]at h ⊢;exact⟨h,rfl,fun e=>absurd e h5⟩
theorem aqw{s:aS}{d:Int}{x:aC}(h:(fm vars kw s d x).aV=0):s.aV=0∧(fm vars kw s d x).locals=jA s.locals x∧ly x=true∧kP x.kind x.order=true∧(x.kind=1→x.name∉s.locals)∧(x.kind=2→x.name∈s.locals)∧(x.kind=5→x.name∈s.locals∧x.cW∈s.locals∧x.name≠x.cW)∧(3≤x.kind∧x.kind≤6→vP vars s.locals x.kind x.place)∧rM vars s.locals x.exprs:=by unfold fm at h ⊢;obtain⟨r1,r2,r3⟩:=auc h;obtain⟨e1,e2,e3⟩:=Uu vars x.exprs _ d r1;obtain⟨f1,f2,f0,f3,f4⟩:=apF vars kw e1;obtain⟨z1,z2⟩:=Z_ f1;have z3:=ak_ f1;rw[f2,Hk]at e2 e3;rw[Hk]at f0 f3 f4;rw[e2]at r2 r3;exact⟨z1,r2,z2,z3,f0,f3,r3,f4,e3⟩
mutual
theorem avW:∀(x:aC)(s:aS)(d:Int),(stM vars kw s d x).aV=0→s.aV=0∧(stM vars kw s d x).locals=jA s.locals x∧vS vars s.locals x
 | .mk kind line name cW order place exprs aZ bz,s,d,h=>by
  rw[stM]at h ⊢;obtain⟨b1,b2,b3⟩:=P4 bz _ _ _ (Nat.le_refl _) h;obtain⟨a1,a2,a3⟩:=P4 aZ _ _ _ (Nat.le_refl _) b1;have XB:=b2.trans (show(List.take _ _)=_ from List.take_length);obtain⟨c1,c2,c3,c4,c5,c6,c7,c8,c9⟩:=aqw vars kw a1;have Kt:(iJ vars kw (fm vars kw s d (.mk kind line name cW order place exprs aZ bz)) (fm vars kw s d (.mk kind line name cW order place exprs aZ bz)).locals.length (aR (d+1)) aZ).locals=jA s.locals (.mk kind line name cW order place exprs aZ bz):=by rw[a2,List.take_length,c2]
  have C8:vB vars (iJ vars kw (fm vars kw s d (.mk kind line name cW order place exprs aZ bz)) (fm vars kw s d (.mk kind line name cW order place exprs aZ bz)).locals.length (aR (d+1)) aZ).locals bz:=b3;rw[Kt]at C8;rw[c2]at a3;obtain⟨g1,g2,g3,g4,g5⟩:=Z7 c3;refine⟨c1,XB.trans Kt,?_⟩;rw[vS];refine⟨c3,c4,c5,c6,c7,c8,c9,?_,?_⟩
  · by_cases hk:kind=1
    · have:aZ=[]:=(g5 hk).1;subst this;rw[vB];trivial
    · have e:jA s.locals (.mk kind line name cW order place exprs aZ bz)=s.locals:=by unfold jA;rw[if_neg hk]
      rw[e]at a3;exact a3
  · by_cases hk:kind=1
    · have:bz=[]:=(g5 hk).2;subst this;rw[vB];trivial
    · have e:jA s.locals (.mk kind line name cW order place exprs aZ bz)=s.locals:=by unfold jA;rw[if_neg hk]
      rw[e]at C8;exact C8
theorem P4:∀(l:List aC)(s:aS)(n:Nat)(d:Int),n≤s.locals.length→(iJ vars kw s n d l).aV=0→s.aV=0∧(iJ vars kw s n d l).locals=s.locals.take n∧vB vars s.locals l
 |[],s,n,d,hn,h=>by rw[iJ]at h ⊢;rw[vB];exact⟨h,rfl,trivial⟩
 | x :: r,s,n,d,hn,h=>by
  rw[iJ]at h ⊢;by_cases hs:s.aV≠0
  ·rw[if_pos hs,vj vars kw hs]at h;exact absurd h hs
  · rw [if_neg hs]at h ⊢;have hz:(stM vars kw (s.at x.line) d x).aV=0:=by
     by_cases q:(stM vars kw (s.at x.line) d x).aV=0
     ·exact q
     ·rw[vj vars kw q]at h;exact absurd h q
    obtain⟨q1,q2,q3⟩:=avW x (s.at x.line) d hz;have q2:(stM vars kw (s.at x.line) d x).locals=jA s.locals x:=q2;obtain⟨t1,t2⟩:=abu s.locals x hn;obtain⟨r1,r2,r3⟩:=P4 r (stM vars kw (s.at x.line) d x) n d (by rw[q2];exact t2) h;rw[q2]at r2 r3;rw[vB];exact⟨by simpa using hs,r2.trans t1,q3,r3⟩
end
theorem at7{p:jT}(h:(jk kw p).2=0):p.vars.length≤32∧q_ kw p.vars=0∧∀t∈p.threads,vB p.vars [] t:=by
 unfold jk at h;split at h
 ·cases h
 · rename_i h1;split at h
   ·rename_i h2;exact absurd h h2
   · rename_i h2;rw[aar]at h;refine⟨by omega,by simpa using h2,fun t ht=>?_⟩;exact(P4 p.vars kw t s0 0 1 (Nat.le_refl _) (h t ht)).2.2
end
end Rb

namespace Rb
open Go
structure RS.A(d:Int)(rest:List (Int×Int))(s1 s2:RS):Prop where
 eq:s2={s1 with fuel:=s1.fuel+d,gV:=s1.gV++rest}
 d0:0≤d
 fu:s1.stop=false→0≤s1.fuel∧s1.fuel+d≤1000000
 em:s1.empty=true→s1.stop=true
structure RS.D(d:Int)(rest:List (Int×Int))(s1 s2:RS):Prop where
 st:s1.stop=true
 pr:s1.pr <+: s2.pr
 em:s1.empty=true→0<d
 an:s1.empty=false→rest≠[]
theorem RS.D.right{d:Int}{rest:List (Int×Int)}{s1 s2 s3:RS}(h:RS.D d rest s1 s2)(hp:s2.pr <+: s3.pr):RS.D d rest s1 s3:=⟨h.st,h.pr.trans hp,h.em,h.an⟩
theorem RS.A.stop{d:Int}{rest:List (Int×Int)}{s1 s2:RS}(h:RS.A d rest s1 s2):s2.stop=s1.stop:=by rw[h.eq]
theorem RS.A.fq{d:Int}{rest:List (Int×Int)}{s1 s2:RS}(h:RS.A d rest s1 s2):s2.fq=s1.fq:=by rw[h.eq]
section
variable{d:Int}{rest:List (Int×Int)}
variable(vars:List aK)
end
end Rb

namespace Rb
open Go
section
variable{d:Int}{rest:List (Int×Int)}
theorem RS.D.step{s1 s2 t1 t2:RS}(h:RS.D d rest s1 s2)(k1:Ks s1 t1)(k2:Ks s2 t2):RS.D d rest t1 t2:=by rw[k1.st h.st];exact h.right k2.pr
variable(vars:List aK)
variable(c:Nat)
end
end Rb

namespace Rb
open Go
structure dy where
 what:Int
 n:Int
 k:Int
 j:Int
 x:aT
 kind:Int
 order:Int
 site:Int
 line:Int
def afM:aT:=⟨[],[]⟩
def th(ln what n k:Int):dy:=⟨what,n,k,0,afM,0,0,0,ln⟩
def vw(o:Int)(L:List (List UInt8×Nat))(x:List UInt8):Int:=L.foldl (fun o p=>if p.1=x then(p.2:Int)else o) o
def awz(L:List (List UInt8×Nat))(ln kind n:Int)(name:List UInt8)(op order:Int)(place:aT)(site:Int):dy:=
 if kind=1 then th ln 2 n 0 else if kind=2 then th ln 3 0 (vw (-1) L name)else if kind=3 then th ln 5 0 op
 else⟨7,0,0,0,place,kind,order,site,ln⟩
section
variable(vars:List aK)(L:List (List UInt8×Nat))(ln:Int)
mutual
def Y5:aF→Int→List dy
 | .mk kind n name op order place kids,a=>th ln 1 0 0::(RZ place a++Y6 kids (aR (a+uG place))++[awz L ln kind n name op order place (aR (aR (aR (a+uG place)+vu kids 0)+1))])
def Y6:List aF→Int→List dy
 |[],a=>[]
 |e::r,a=>Y5 e a++Y6 r (aR (a+V_ e 0))
def RZ:aT→Int→List dy
 | .mk var parts,a=>W0 (.mk var parts) parts 0 a
def W0(x:aT):List a_→Nat→Int→List dy
 |[],k,a=>[]
 | p::r,k,a=>match sgR p a with
  |none=>W0 x r (k+1) a
  |some l=>l++(th ln 6 (ahH (aww vars ⟨x.var,x.parts.take k⟩)) 0::W0 x r (k+1) (aR (a+ag0 p 0)))
def sgR:a_→Int→Option (List dy)
 | .mk field index,a=>sgH index a
def sgH:List aF→Int→Option (List dy)
 |[],_=>none
 |e::_,a=>some (Y5 e a)
end
end
mutual
def LH:aF→Nat
 | .mk kind n name op order place kids=>1+Bn place+xF kids
def xF:List aF→Nat
 |[]=>0
 |e::r=>LH e+xF r
def Bn:aT→Nat
 | .mk var parts=>AM parts
def AM:List a_→Nat
 |[]=>0
 |p::r=>LJ p+AM r
def LJ:a_→Nat
 | .mk field index=>1+xF index
end
structure afW where
 want:yJ
 fin:Int
 pr:List Int
 empty:Bool
def Mx:Nat:=1000000000
def yW(vars:List aK)(x:aT):Prop:=(dm vars x).1=0∧((dm vars x).2.kind=1∨(dm vars x).2.kind=2)
structure V2(vars:List aK)(A:List dy)(gV:List (Int×Int))(P:Nat→List Int→List Int→Nat→Int→List Int→Prop)(R:afW→Prop):Prop where
 aCx:∀{pc:Nat}{st sl:List Int}{u:Nat}{f:Int}{pr:List Int}{a:dy},A[pc]?=some a→a.what=1→f<1→R ⟨Jj,0,[],true⟩→P pc st sl u f pr
 aCy:∀{pc:Nat}{st sl:List Int}{u:Nat}{f:Int}{pr:List Int}{a:dy},A[pc]?=some a→a.what=1→¬f<1→P (pc+1) st sl u (aR (f-1)) pr→P pc st sl u f pr
 push:∀{pc:Nat}{st sl:List Int}{u:Nat}{f:Int}{pr:List Int}{a:dy},A[pc]?=some a→a.what=2→st.length≤Mx→P (pc+1) (st++[a.n]) sl u f pr→P pc st sl u f pr
 loc:∀{pc:Nat}{st sl:List Int}{u:Nat}{f:Int}{pr:List Int}{a:dy}{k:Nat}{v:Int},A[pc]?=some a→a.what=3→a.k=(k:Int)→sl[k]?=some v→st.length≤Mx→P (pc+1) (st++[v]) sl u f pr→P pc st sl u f pr
 aY:∀{pc:Nat}{st sl:List Int}{u:Nat}{f:Int}{pr:List Int}{a:dy}{k:Nat}{v:Int},A[pc]?=some a→a.what=4→a.k=(k:Int)→k<sl.length→P (pc+1) st (sl.set k v) u f pr→P pc (st++[v]) sl u f pr
 bin:∀{pc:Nat}{st sl:List Int}{u:Nat}{f:Int}{pr:List Int}{a:dy}{x:Int}{y:Int},A[pc]?=some a→a.what=5→1≤a.k→a.k≤11→P (pc+1) (st++[avF a.k x y]) sl u f pr→P pc (st++[x,y]) sl u f pr
 aCm:∀{pc:Nat}{st sl:List Int}{u:Nat}{f:Int}{pr:List Int}{a:dy}{v:Int},A[pc]?=some a→a.what=6→v≥a.n→R ⟨Jj,2,pr,false⟩→P pc (st++[v]) sl u f pr
 aCn:∀{pc:Nat}{st sl:List Int}{u:Nat}{f:Int}{pr:List Int}{a:dy}{v:Int},A[pc]?=some a→a.what=6→¬v≥a.n→P (pc+1) (st++[v]) sl u f pr→P pc (st++[v]) sl u f pr
 jump:∀{pc:Nat}{st sl:List Int}{u:Nat}{f:Int}{pr:List Int}{a:dy}{k:Nat},A[pc]?=some a→a.what=11→a.k=(k:Int)→k≤A.length→P k st sl u f pr→P pc st sl u f pr
 aCH:∀{pc:Nat}{st sl:List Int}{u:Nat}{f:Int}{pr:List Int}{a:dy}{k:Nat},A[pc]?=some a→a.what=12→a.k=(k:Int)→k≤A.length→P k st sl u f pr→P pc (st++[0]) sl u f pr
 aCI:∀{pc:Nat}{st sl:List Int}{u:Nat}{f:Int}{pr:List Int}{a:dy}{v:Int},A[pc]?=some a→a.what=12→v≠0→P (pc+1) st sl u f pr→P pc (st++[v]) sl u f pr
 print:∀{pc:Nat}{st sl:List Int}{u:Nat}{f:Int}{pr:List Int}{a:dy}{v:Int},A[pc]?=some a→a.what=13→pr.length≤Mx→P (pc+1) st sl u f (pr++[v])→P pc (st++[v]) sl u f pr
 aCp:∀{pc:Nat}{st sl:List Int}{u:Nat}{f:Int}{pr:List Int}{a:dy},A[pc]?=some a→a.what=10→u=gV.length→R ⟨⟨4,a.site,a.line,q5,a.order,0,0,0⟩,0,pr,false⟩→P pc st sl u f pr
 aCq:∀{pc:Nat}{st sl:List Int}{u:Nat}{f:Int}{pr:List Int}{a:dy}{g:Int×Int},A[pc]?=some a→a.what=10→gV[u]?=some g→P (pc+1) st sl (u+1) f pr→P pc st sl u f pr
 aCE:∀{pc:Nat}{st sl:List Int}{u:Nat}{f:Int}{pr:List Int}{a:dy}{idx:List Int}{vs:List Int},A[pc]?=some a→a.what=7→4≤a.kind→a.kind≤8→yW vars a.x→(idx.length:Int)=vv a.x.parts 0→(vs.length:Int)=(ni a.kind).1→u=gV.length →
  R ⟨⟨if a.kind≥6 then 3 else 1,a.site,a.line,qY vars a.x idx,a.order,if a.kind≥6 then a.kind else 0,vs.getD 0 0,vs.getD 1 0⟩,0,pr,false⟩→P pc (st++idx++vs) sl u f pr
 aCF:∀{pc:Nat}{st sl:List Int}{u:Nat}{f:Int}{pr:List Int}{a:dy}{idx:List Int}{vs:List Int}{g:Int×Int},A[pc]?=some a→a.what=7→4≤a.kind→a.kind≤8→yW vars a.x→(idx.length:Int)=vv a.x.parts 0→(vs.length:Int)=(ni a.kind).1→gV[u]?=some g→st.length≤Mx →
  P (pc+1) (st++[if(qY vars a.x idx).bits=true then ax4 g.1 (qY vars a.x idx).bit (qY vars a.x idx).width else g.1]) sl (u+1) f pr→P pc (st++idx++vs) sl u f pr
 aCs:∀{pc:Nat}{st sl:List Int}{u:Nat}{f:Int}{pr:List Int}{a:dy}{idx:List Int}{vs:List Int},A[pc]?=some a→a.what=8→yW vars a.x→(idx.length:Int)=vv a.x.parts 0→vs.length=(if a.kind=6 then 2 else 1)→(qY vars a.x idx).bits=false→u=gV.length →
  R ⟨⟨2,a.site,a.line,qY vars a.x idx,a.order,0,wrD (qY vars a.x idx) 0 (vs.getD 0 0),vs.getD 1 0⟩,0,pr,false⟩→P pc (st++idx++vs) sl u f pr
 aCt:∀{pc:Nat}{st sl:List Int}{u:Nat}{f:Int}{pr:List Int}{a:dy}{idx:List Int}{vs:List Int}{g:Int×Int},A[pc]?=some a→a.what=8→yW vars a.x→(idx.length:Int)=vv a.x.parts 0→vs.length=(if a.kind=6 then 2 else 1)→(qY vars a.x idx).bits=false→gV[u]?=some g →
  P (pc+1) st sl (u+1) f pr→P pc (st++idx++vs) sl u f pr
 aCu:∀{pc:Nat}{st sl:List Int}{u:Nat}{f:Int}{pr:List Int}{a:dy}{idx:List Int}{vs:List Int},A[pc]?=some a→a.what=8→yW vars a.x→(idx.length:Int)=vv a.x.parts 0→vs.length=(if a.kind=6 then 2 else 1)→(qY vars a.x idx).bits=true→u=gV.length →
  R ⟨⟨1,a.site,a.line,qY vars a.x idx,a.order,0,0,0⟩,0,pr,false⟩→P pc (st++idx++vs) sl u f pr
 aCv:∀{pc:Nat}{st sl:List Int}{u:Nat}{f:Int}{pr:List Int}{a:dy}{idx:List Int}{vs:List Int}{g:Int×Int},A[pc]?=some a→a.what=8→yW vars a.x→(idx.length:Int)=vv a.x.parts 0→vs.length=(if a.kind=6 then 2 else 1)→(qY vars a.x idx).bits=true→gV[u]?=some g→u+1=gV.length →
  R ⟨⟨2,a.site,a.line,qY vars a.x idx,a.order,0,wrD (qY vars a.x idx) g.1 (vs.getD 0 0),vs.getD 1 0⟩,0,pr,false⟩→P pc (st++idx++vs) sl u f pr
 aCw:∀{pc:Nat}{st sl:List Int}{u:Nat}{f:Int}{pr:List Int}{a:dy}{idx:List Int}{vs:List Int}{g:Int×Int}{g':Int×Int},A[pc]?=some a→a.what=8→yW vars a.x→(idx.length:Int)=vv a.x.parts 0→vs.length=(if a.kind=6 then 2 else 1)→(qY vars a.x idx).bits=true→gV[u]?=some g→gV[u+1]?=some g' →
  P (pc+1) st sl (u+2) f pr→P pc (st++idx++vs) sl u f pr
 Qr:∀{pc:Nat}{st sl:List Int}{u:Nat}{f:Int}{pr:List Int}{a:dy}{idx:List Int},A[pc]?=some a→a.what=9→yW vars a.x→(idx.length:Int)=vv a.x.parts 0→u=gV.length →
  R ⟨⟨1,a.site,a.line,qY vars a.x idx,a.order,0,0,0⟩,0,pr,false⟩→P pc (st++idx) sl u f pr
 VF:∀{pc:Nat}{st sl:List Int}{u:Nat}{f:Int}{pr:List Int}{a:dy}{idx:List Int}{g:Int×Int}{k j:Nat},A[pc]?=some a→a.what=9→yW vars a.x→(idx.length:Int)=vv a.x.parts 0→a.k=(k:Int)→a.j=(j:Int)→k<sl.length→j<sl.length→gV[u]?=some g →
  P (pc+1) st ((sl.set k g.1).set j g.2) (u+1) f pr→P pc (st++idx) sl u f pr
 fin:∀{pc:Nat}{st sl:List Int}{u:Nat}{f:Int}{pr:List Int},pc=A.length→R ⟨Jj,1,pr,false⟩→P pc st sl u f pr
def yI(A:List dy)(pc:Nat)(l:List dy):Prop:=∀i x,l[i]?=some x→A[pc+i]?=some x
theorem yI.cons{A:List dy}{pc:Nat}{x:dy}{l:List dy}(h:yI A pc (x::l)):A[pc]?=some x∧yI A (pc+1) l:=⟨h 0 x rfl,fun i y hy=>by have:=h (i+1) y (by simpa using hy);rw[show pc+1+i=pc+(i+1) by omega];exact this⟩
theorem yI.app{A:List dy}{pc:Nat}{l m:List dy}(h:yI A pc (l++m)):yI A pc l∧yI A (pc+l.length) m:=by
 refine⟨fun i y hy=>h i y ?_,fun i y hy=>?_⟩
 ·rw[List.getElem?_append_left (List.getElem?_eq_some_iff.1 hy).1];exact hy
 · have:=h (l.length+i) y (by rw[List.getElem?_append_right (by omega),Nat.add_sub_cancel_left];exact hy);rw[Nat.add_assoc];exact this
structure St(gV:List (Int×Int))(s:RS)(u:Nat):Prop where
 go:s.stop=false
 em:s.empty=false
 wz:s.want=Jj
 fz:s.fin=0
 an:s.gV=gV.drop u
 le:u≤gV.length
structure LR(L:List (List UInt8×Nat))(fq:List (List UInt8×Int))(sl:List Int):Prop where
 nm:fq.map (·.1)=L.map (·.1)
 vl:∀(i:Nat)(p:List UInt8×Nat)(l:List UInt8×Int),L[i]?=some p→fq[i]?=some l→sl[p.2]?=some l.2
 nd:(L.map (·.1)).Nodup
theorem aaT{o:Int}{x:List UInt8}:∀{L:List (List UInt8×Nat)},x∉L.map (·.1)→vw o L x=o
 |[],_=>rfl
 | p::r,h=>by simp only[List.map_cons,List.mem_cons,not_or]at h;unfold vw;rw[List.foldl_cons,if_neg (fun e=>h.1 e.symm)];exact aaT h.2
theorem aaS:∀{L:List (List UInt8×Nat)}{o:Int}{i:Nat}{p:List UInt8×Nat},(L.map (·.1)).Nodup→L[i]?=some p→vw o L p.1=p.2
 | q::r,o,0,p,hn,h=>by simp at h;subst h;simp only[List.map_cons,List.nodup_cons]at hn;unfold vw;rw[List.foldl_cons,if_pos rfl];exact aaT hn.1
 | q::r,o,i+1,p,hn,h=>by simp only[List.map_cons,List.nodup_cons]at hn;unfold vw;rw[List.foldl_cons];exact aaS (i:=i) hn.2 (by simpa using h)
theorem LR.get{L:List (List UInt8×Nat)}{s:RS}{sl:List Int}(h:LR L s.fq sl){x:List UInt8}(hx:x∈L.map (·.1)):∃k i,vw (-1) L x=(k:Nat)∧sl[k]?=some (s.get x)∧L[i]?=some (x,k)∧s.fq.findIdx? (fun l=>l.1==x)=some i:=by
 rw[←h.nm]at hx;obtain⟨i,hi⟩:=apV hx;obtain⟨l,h1,h2,h3,_⟩:=aed hi;have hn:(L.map (·.1))[i]?=some x:=by rw[←h.nm,List.getElem?_map,h1,←h2];rfl
 rw[List.getElem?_map]at hn;cases hp:L[i]? with
 |none=>rw[hp]at hn;cases hn
 | some p=>
  rw[hp]at hn;have KY:p.1=x:=by simpa using hn
  refine⟨p.2,i,?_,?_,?_,hi⟩
  ·rw[←KY];exact aaS h.nd hp
  ·rw[h3];exact h.vl i p l hp h1
  ·rw[←KY];exact hp
end Rb

namespace Rb
open Go
theorem drop_cons{α:Type}{l:List α}{u:Nat}{g:α}(h:l[u]?=some g):l.drop u=g::l.drop (u+1):=by obtain⟨hu,he⟩:=List.getElem?_eq_some_iff.1 h;rw[List.drop_eq_getElem_cons hu,he]
theorem St.next{gV:List (Int×Int)}{s:RS}{u:Nat}(h:St gV s u):u=gV.length∨∃g,gV[u]?=some g:=by
 by_cases e:u=gV.length
 ·exact .inl e
 · right;have:=h.le;exact ⟨gV[u]'(by omega), List.getElem?_eq_getElem _⟩
structure VV where
 vars:List aK
 A:List dy
 gV:List (Int×Int)
 P:Nat→List Int→List Int→Nat→Int→List Int→Prop
 R:afW→Prop
section
variable{E:VV}(S:V2 E.vars E.A E.gV E.P E.R){L:List (List UInt8×Nat)}{sl:List Int}{ln:Int}
include S
end
end Rb

namespace Rb
open Go
theorem NO(vars:List aK)(L:List (List UInt8)):∀{l:List aF},rM vars L l↔∀e∈l,vE vars L e
 |[]=>by simp[rM]
 |e::r=>by simp[rM,NO vars L (l:=r)]
theorem adi(vars:List aK)(L:List (List UInt8)):∀{l:List a_},Bo vars L l↔∀p∈l,∀e∈p.index,vE vars L e
 |[]=>by simp[Bo]
 |p::r=>by simp[Bo,av0,NO,adi vars L (l:=r)]
theorem Su{e:aF}(h:kM e=true):1≤e.kind∧e.kind≤8∧(e.kind≤3→e.place.parts=[])∧(e.kids.length:Int)=(ni e.kind).1∧(e.kind=3→1≤e.op∧e.op≤11):=by
 unfold kM at h;simp only[Bool.and_eq_true,decide_eq_true_eq]at h;obtain⟨⟨⟨⟨⟨⟨h1,h2⟩,_⟩,_⟩,h5⟩,h6⟩,h7⟩:=h;refine⟨h1,h2,fun e3=>?_,by simpa using h7,fun e3=>by rw[if_pos e3]at h5;simpa using h5⟩;have hk:(ni e.kind).2=false:=by
  unfold ni;by_cases e1:e.kind=3
  ·rw[if_pos e1]
  ·rw[if_neg e1,if_neg (by omega),if_neg (by omega),if_neg (by omega)]
 rw[hk,Bool.false_or]at h6;unfold jS at h6;simp only[Bool.and_eq_true,beq_iff_eq]at h6;exact List.length_eq_zero_iff.1 h6.2
section
variable{E:VV}(S:V2 E.vars E.A E.gV E.P E.R){L:List (List UInt8×Nat)}{sl:List Int}{ln:Int}
include S
end
end Rb
