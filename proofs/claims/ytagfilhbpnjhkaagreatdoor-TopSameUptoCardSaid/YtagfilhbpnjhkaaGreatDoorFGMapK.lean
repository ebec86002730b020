import Derived.Carry
import Derived.MapKept
import Derived.Test.YtagfilhbpnjhkaaGreatDoorFGSrcB
set_option maxRecDepth 10000
set_option maxHeartbeats 0
namespace Go.Proofs.Q
open Tryz Go.RowKit
variable{ops:Array Oper}{w':H}
theorem y7{l:Array Bool}{i:Nat}(h:l.getD i true=false):(l.setIfInBounds i true).toList.count false+1=l.toList.count false:=by
 have hi:i<l.size:=by
  rcases cI i l.size with I|I
  ·exact I
  simp[Array.getElem?_eq_none I]at h
 have d:l[i]=false:=by simpa[hi]using h
 rw[a1f];have a:i<l.toList.length:=by simpa using hi
 have c:l.toList[i]=false:=by simpa using d
 have hpos:0<l.toList.count false:=List.count_pos_iff.mpr (c▸be a);rw[List.count_set a,c];show l.toList.count false-1+0+1=l.toList.count false;omega
theorem zu{P:Program}{Q:Exit->Act->H->Prop}{md:Region.Mode}(d:Array Bool->Act->H->Prop)
  (hstep:∀l a w i,d l a w->i∈Region.ready md ops l->wpOp P ops Q i (d (l.setIfInBounds i true)) a w)
  (hend:∀l a w,d l a w->Region.ready md ops l=[]->Q .normal a w) :
  ∀(fuel:Nat) (l:Array Bool) (a:Act) (w:H),l.toList.count false<=fuel->d l a w->wpAny P md ops Q fuel l a w
 |0,l,a,w,g,h=>by
  have c:Region.ready md ops l=[]:=by
   cases c:Region.ready md ops l with
   |nil=>rfl
   |cons i rs =>
    have hi:i∈Region.ready md ops l:=by rw[c];exact fA
    have:=y7 (mem_ready.1 hi).1;omega
  exact⟨c,hend l a w h c⟩
 |fuel+1,l,a,w,g,h=>⟨λc=>hend l a w h c,λi hi=>wpOp_mono (λe w' f=>zu d hstep hend fuel _ e w' (by have:=y7 (mem_ready.1 hi).1;omega) f) (hstep l a w i h hi)⟩
abbrev kV(p:O×O):Z:=.agg #[S p.1,S p.2]
theorem Vs(p q:O×O)(w:H):(Op.equal 60 (kV p) (kV q)).run prog w=.ok (decide (p=q)) w:=by
 obtain⟨a,b⟩:=p;obtain⟨c,d⟩:=q;have g:prog.underlying 60=some (.struct (prog.fieldsOf 60)):=Rz;have hp:prog.stoodInHeld 60=false:=Rz;have Y:=rI a c;have I:=rI b d;show(Op.equalIn 10000 60 (.agg #[.string (E a),.string (E b)]) (.agg #[.string (E c),.string (E d)])).run prog w=_;rw[show(10000:Nat)=9999+1 from rfl,run_equalIn_agg w 9999 60 _ _ g hp];obtain⟨A',hA,B,e,C,hC,D,f⟩:=aA (E a) (E b) (E c) (E d);rw[<-hA,<-hC]at Y;rw[<-e,<-f]at I;rw[<-hA,<-e,<-hC,<-f];simp only[Program.fieldsOf,underlying60]
 have h:decide ((a,b)=(c,d))=(decide (a=c)&&decide (b=d)):=by
  rw[bX];simp
 rw[h];clear h hA e hC f g hp;generalize decide (a=c)=q1 at Y⊢;generalize decide (b=d)=q2 at I⊢
 go_simp
 repeat' split
 all_goals simp_all
theorem sx(em:Bool)(p:O×O)(w:H):(Instr.checkKey em 10000 60 (kV p)).run prog w=.ok () w:=by
 have hu:=underlying9;show(Instr.checkKey em (9999+1) 60 (kV p)).run prog w=.ok () w;unfold Instr.checkKey;simp only[run_underlying underlying60,h2,h1]
 have I:∀v,(Instr.checkKey em (9998+1) 9 v).run prog w=.ok () w:=λv=>by
  unfold Instr.checkKey;simp[run_underlying hu]
 have a:∀v,(Instr.checkKey em 9999 9 v).run prog w=.ok () w:=I;have c:∀x y,(part 9 #[x,y] 0).run prog w=.ok x w:=λx y=>Rz;have d:∀x y,(part 9 #[x,y] 1).run prog w=.ok y w:=λx y=>Rz;simp[a,c,d]
abbrev yp(D:List ((O×O)×Int)):List (Z×Z):=D.map λp=>(kV p.1,Value.int .i64 p.2)
def MapAt(w:H)(b:Nat)(D:List ((O×O)×Int)):Prop:=∃es n,w.heap[b]?= some (.map es n)/\es.toList.map (λe=>(e.key,e.val))=yp D
def ja:List ((O×O)×Int)->O×O->Option Int
 | [],_=>none
 |p::l,k=>if p.1=k then some p.2 else ja l k
theorem vt(l:List ((O×O)×Int))(k:O×O):(ja l k).getD 0=jD l k:=by
 induction l with
 |nil=>rfl
 |cons p l a =>
  unfold ja jD
  split
  ·rfl
  exact a
theorem Dg(k:O×O)(w:H):∀(D:List ((O×O)×Int)) (es:List MapEntry) (i:Nat),es.map (λe=>(e.key,e.val))=yp D ->
  ∃r,(Instr.findAsking 60 (kV k) es i).run prog w=.ok r w/\r.map (·.2)=(ja D k).map (Value.int .i64)
 | [],[],i,_=>⟨none,rfl,rfl⟩
 | [],_::_,i,h=>by cases h
 |_::_,[],i,h=>by cases h
 |p::D,e::es,i,h=>by
  rw[dh,yp,dh]at h;injection h with Y I
  injection Y with c d
  obtain⟨r,f,g⟩:=Dg k w D es (i+1) I;unfold Instr.findAsking ja;rw[h2,c,Vs,h1];by_cases a:p.1=k
  ·rw[ge a,gr a.symm,ge rfl]
   exact⟨_,rfl,by simp[d]⟩
  rw[gc a,gh (λh=>a h.symm),gc Oc];exact⟨r,f,g⟩
theorem Cu(k:O×O)(w:H)(D:List ((O×O)×Int))(es:List MapEntry)(h:es.map (λe=>(e.key,e.val))=yp D) :
  ∃r,(Instr.findKey 60 (kV k) es).run prog w=.ok r w/\r.map (·.2)=(ja D k).map (Value.int .i64):=by
 unfold Instr.findKey;rw[h2,run_underlying underlying60,h1];cases es with
 |nil =>
  cases D with
  |nil=>exact⟨none,rfl,rfl⟩
  |cons p D=>cases h
 |cons e es =>
  have hn:Instr.sameNow (.struct (prog.fieldsOf 60)) (kV k) e.key=none:=rfl;obtain⟨r,a,c⟩:=Dg k w D (e::es) 0 h;exact⟨r,a,c⟩
theorem VB{w:H}{b:Nat}{D:List ((O×O)×Int)}(h:MapAt w b D)(k:O×O) :
  (Instr.lookup 57 (.map (some b)) (kV k) false).run prog w=.ok (.int .i64 (jD D k)) w:=by
 obtain⟨es,n,U,he⟩:=h;obtain⟨r,d,a⟩:=Cu k w D es.toList he;have f:(zeroValue 3).run prog w=.ok (.int .i64 0) w:=Rz;rw[<-vt];cases c:ja D k with
 |none =>
  rw[c]at a
  have e:r=none:=by cases r with
   |none=>rfl
   |some x=>cases a
  subst e;simp[Instr.lookup,run_underlying underlying57,MapKept.run_getObj_map U,sx,d,f,Result.andThen]
 |some v =>
  rw[c]at a
  obtain⟨x,rfl,X⟩:∃x,r=some x/\x.2=.int .i64 v:=by
   cases r with
   |none=>cases a
   |some x=>exact⟨x,rfl,bj a⟩
  simp[Instr.lookup,run_underlying underlying57,MapKept.run_getObj_map U,sx,d,Result.andThen,X]
theorem MapAt.below{w:H}{b:Nat}{D:List ((O×O)×Int)}(h:MapAt w b D)(U:r7 w w'):MapAt w' b D:=by
 obtain⟨es,n,Y,I⟩:=h;exact⟨es,n,(U.block b (bw.1 Y).1).trans Y,I⟩
theorem VD{w:H}{b:Nat}{D:List ((O×O)×Int)}(h:MapAt w b D)(p:(O×O)×Int)(e:ja D p.1=none) :
  ∃w',(Instr.mapUpdate 57 (.map (some b)) (kV p.1) (.int .i64 p.2)).run prog w=.ok () w'/\MapAt w' b (D++[p])/\∀B,B<=b->Below B w w':=by
 obtain⟨es,n,U,he⟩:=h;obtain⟨r,f,d⟩:=Cu p.1 w D es.toList he;rw[e]at d
 have c:r=none:=by cases r with
  |none=>rfl
  |some x=>cases d
 subst c;have a:b<w.heap.size:=(bw.1 U).1;refine⟨{w with heap:=w.heap.setIfInBounds b (.map (es.push {key:=kV p.1,val:=.int .i64 p.2,born:=n}) (n+1))},?_,⟨es.push {key:=kV p.1,val:=.int .i64 p.2,born:=n},n+1,?_,?_⟩,λB hB=>⟨rfl,rfl,rfl,Oc,λk hk=>?_⟩⟩
 ·simp[Instr.mapUpdate,run_underlying underlying57,MapKept.run_getObj_map U,sx,f,MapKept.run_setObj_map _ U,Result.andThen]
 ·simp[a]
 ·rw[Array.toList_push,eY,he,yp,yp,eY]
  rfl
 show(w.heap.setIfInBounds b _)[k]?= _;rw[Nj M0]
theorem se{D:List ((O×O)×Int)}{k:O×O}(h:k∉D.map (·.1)):ja D k=none:=by
 induction D with
 |nil=>rfl
 |cons p D a =>
  rw[dh,aK,not_or]at h;unfold ja;rw[gc (λe=>h.1 e.symm),a h.2]
theorem vu{D:List ((O×O)×Int)}(a:(D.map (·.1)).Nodup){p:(O×O)×Int}(h:p∈D):ja D p.1=some p.2:=by
 induction D with
 |nil=>cases h
 |cons q D c =>
  rw[dh,List.nodup_cons]at a;unfold ja;rcases aK.mp h with rfl|h
  ·rw[ge rfl]
  rw[gc (λe=>a.1 (by rw[e];exact dt.mpr ⟨p,h,rfl⟩)),c a.2 h]
theorem UT{D c:List ((O×O)×Int)}(hp:D.Perm c)(e:(c.map (·.1)).Nodup)(k:O×O):jD D k=jD c k:=by
 have d:(D.map (·.1)).Nodup:=(hp.map _).nodup_iff.mpr e;rw[<-vt,<-vt];by_cases h:k∈c.map (·.1)
 ·obtain⟨p,a,rfl⟩:=dt.mp h
  rw[vu e a,vu d (hp.mem_iff.mpr a)]
 rw[se h,se (λI=>h ((hp.map _).mem_iff.mp I))]

structure YV (ops:Array Oper):Prop where
 sz:ops.size=57
 mk0:∃o,ops[0]?= some o/\o.op=.makeMap 57 none/\o.dst=some 1/\o.guard=none
 bl:∀k (hk:k<27),∃o,ops[2*k+1]?= some o/\o.op=.build 60 #[(0,.const (S (ii[k]'hk).1.1)),(1,.const (S (ii[k]'hk).1.2))]/\o.dst=some (k+2)/\o.guard=none
 ins:∀k (hk:k<27),∃o,ops[2*k+2]?= some o/\o.op=.insert 57 1 (.tmp (k+2)) (.const (.int .i64 (ii[k]'hk).2))/\o.dst=none/\o.guard=none
 mv:∃o,ops[55]?= some o/\o.op=.move 1/\o.dst=some 29/\o.guard=none
 asg:∃o,ops[56]?= some o/\o.op=.assign 29/\o.dst=some 0/\o.guard=none
 dep:((List.range 57).all λi=>((ops[i]?).map λo=>o.after.all λe=>decide (e.on<i)).getD false)=true
 d1:((List.range 27).all λk=>((ops[2*k+2]?).map λo=>o.after.any λe=>Region.binds .any e&&e.on==0).getD false)=true
 d2:((List.range 27).all λk=>((ops[2*k+2]?).map λo=>o.after.any λe=>Region.binds .any e&&e.on==2*k+1).getD false)=true
 d3:((ops[55]?).map λo=>o.after.any λe=>Region.binds .any e&&e.on==0).getD false=true
 d4:((ops[56]?).map λo=>o.after.any λe=>Region.binds .any e&&e.on==55).getD false=true
theorem mA{l:Array Bool}{i j:Nat}(hi:i∈Region.ready .any ops l)(h:((ops[i]?).map λo=>o.after.any λe=>Region.binds .any e&&e.on==j).getD false=true):l.getD j false=true:=by
 obtain⟨_,o,a,hall⟩:=mem_ready.1 hi;rw[a]at h;obtain⟨e,he,U⟩:=Array.any_eq_true'.1 (show(o.after.any λe=>Region.binds .any e&&e.on==j)=true from h);rw[f8,beq_iff_eq]at U;rw[<-U.2];exact hall e he U.1
theorem rR{n:Nat}{p:Nat->Bool}(h:(List.range n).all p=true){i:Nat}(hi:i<n):p i=true:=dl.mp h i (List.mem_range.mpr hi)
theorem EP(K:YV ops){l:Array Bool}(f:l.size=57)(h:Region.ready .any ops l=[]):∀i,i<57->l.getD i false=true:=by
 intro i
 induction i using Nat.strongRecOn with
 |ind i k =>
  intro hi;by_cases d:l.getD i false=true
  ·exact d
  exfalso;have hd:=rR K.dep hi;have a:∃o,ops[i]?= some o:=⟨ops[i]'(by rw[K.sz];exact hi),cK _⟩;obtain⟨o,a⟩:=a;rw[a]at hd;have c:o.after.all (λe=>decide (e.on<i))=true:=hd
  have hm:i∈Region.ready .any ops l:=by
   refine mem_ready.2 ⟨?_,o,a,λe he U=>?_⟩
   ·have g:l.getD i true=l[i]' M0:=by simp[f,hi]
    have j:l.getD i false=l[i]' M0:=by simp[f,hi]
    rw[g,<-j]
    simpa using d
   have:=Array.all_eq_true_iff_forall_mem.1 c e he;rw[gx]at this;exact k e.on this M0
  rw[h]at hm;cases hm
abbrev kL(k:Nat):(O×O)×Int:=ii.getD k default
theorem XT{k:Nat}(a:k<27):kL k=ii[k]'a:=by
 show ii.getD k default=_;rw[jj,aG (show k<ii.length from a)];rfl
theorem Vr:(ii.map (·.1)).Nodup:=P8
theorem QD:(List.range 27).map kL=ii:=P8
theorem a0m{D:List Nat}{k:Nat}(c:∀j∈D,j<27)(d:k<27)(f:k∉D):ja (D.map kL) (kL k).1=none:=by
 refine se λh=>?_;rw[lu]at h;obtain⟨j,a,e⟩:=dt.mp h;have I:∀(i j:Fin 27),(kL i.val).1=(kL j.val).1->i=j:=P8;have:=I ⟨j,c j a⟩ ⟨k,d⟩ e;exact f ((Fin.mk.inj_iff.mp this)▸a)
structure TU (w0:H) (l:Array Bool) (a:Act) (w:H):Prop where
 n:l.size=57
 t:a.tmps.size=30
 df:a.defers=[]
 ks:∀k,k<27->l.getD (2*k+1) false=true->a.tmps[k+2]?= some (kV (kL k).1)
 st:(l.getD 0 false=false/\w=w0/\(∀k,k<27->l.getD (2*k+2) false=false)/\l.getD 55 false=false/\l.getD 56 false=false) \/
  (l.getD 0 false=true/\∃b D,a.tmps[1]?= some (.map (some b))/\w0.heap.size<=b/\MapAt w b (List.map kL D)/\r7 w0 w/\List.Nodup D/\(∀k,k∈D ↔ k<27/\l.getD (2*k+2) false=true) /\
   (l.getD 55 false=true->a.tmps[29]?= some (.map (some b)))/\(l.getD 56 false=true->a.tmps[0]?= some (.map (some b))))
theorem eO{l:Array Bool}{i j:Nat}(h:i≠j):(l.setIfInBounds i true).getD j false=l.getD j false:=getD_set_ne false h
theorem Ps{l:Array Bool}{i:Nat}(h:i<l.size):(l.setIfInBounds i true).getD i false=true:=by simp[h]
theorem Ui(x y:O)(w:H):(Instr.build 60 #[(0,S x),(1,S y)]).run prog w=.ok (.agg #[S x,S y]) w:=Rz
theorem rC{Q:Exit->Act->H->Prop}{K:Act->H->Prop}{i:Nat}{o:Oper}{a:Act}{w:H}{v:Z}(d:ops[i]?= some o)(c:o.guard=none)(e:(execOp a.eval o).run prog w=.ok (.value v) w')(h:K (a.put o.dst v) w'):wpOp prog ops Q i K a w:=by
 unfold wpOp;rw[d];show if _ then _ else _;have hw:Region.wanted o (yielded ops a.tmps)=true:=by unfold Region.wanted;rw[c]
 rw[ge hw];refine .inl ?_;unfold Oper.wp;rw[e];exact h
theorem AF(a:Act)(d:Option Tmp)(v:Z):(a.put d v).tmps.size=a.tmps.size:=by
 cases d with
 |none=>rfl
 |some d=>simp[Act.put]
theorem AE(a:Act)(d:Option Tmp)(v:Z):(a.put d v).defers=a.defers:=by cases d <;>rfl
theorem mR{a:Act}{d j:Nat}{v:Z}(h:d≠j):(a.put (some d) v).tmps[j]?= a.tmps[j]?:=by
 show(a.tmps.setIfInBounds d v)[j]?= _;exact Nj h
theorem put_eq{a:Act}{d:Nat}{v:Z}(h:d<a.tmps.size):(a.put (some d) v).tmps[d]?= some v:=by
 show(a.tmps.setIfInBounds d v)[d]?= _;simp[h]
theorem qN{a:Act}{t:Nat}{v:Z}(h:a.tmps[t]?= some v):a.eval (.tmp t)=v:=by
 show a.tmps.getD t undef=v;rw[Yh,h];rfl
theorem VC(w:H):MapAt (w.alloc (.map #[] 0)) w.heap.size []:=⟨#[],0,jp w _,rfl⟩
theorem MQ{Q:Exit->Act->H->Prop}{K:Act->H->Prop}{i:Nat}{o:Oper}{a:Act}{w:H}(d:ops[i]?= some o)(c:o.guard=none)(e:(execOp a.eval o).run prog w=.ok .skip w')(h:K (a.put o.dst undef) w'):wpOp prog ops Q i K a w:=by
 unfold wpOp;rw[d];show if _ then _ else _;have hw:Region.wanted o (yielded ops a.tmps)=true:=by unfold Region.wanted;rw[c]
 rw[ge hw];refine .inl ?_;unfold Oper.wp;rw[e];exact h
theorem uz{w0:H}{l:Array Bool}{a:Act}{w:H}(h:TU w0 l a w){i:Nat}(hi:∀k,k<27->i≠2*k+1){d:Option Tmp}{v:Z}(hd:∀k:Nat,k<27->d≠some (k+2)):∀k,k<27->(l.setIfInBounds i true).getD (2*k+1) false=true->(a.put d v).tmps[k+2]?= some (kV (kL k).1):=by
 intro k c f;rw[eO (hi k c)]at f;cases d with
 |none=>exact h.ks k c f
 |some d=>rw[mR (λe=>hd k c (by rw[e]))];exact h.ks k c f
theorem b0g:∀k:Nat,k<27->(some 29:Option Tmp)≠some (k+2):=λk hk e=>by
 have I:(29:Nat)=k+2:=bj e;omega
theorem ne0:∀k:Nat,k<27->(some 0:Option Tmp)≠some (k+2):=λk hk e=>by
 have I:(0:Nat)=k+2:=bj e;omega
theorem Gl(K:YV ops)(Q:Exit->Act->H->Prop)(w0:H)(l:Array Bool)(a:Act)(w:H)(i:Nat)(h:TU w0 l a w)(hi:i∈Region.ready .any ops l):wpOp prog ops Q i (TU w0 (l.setIfInBounds i true)) a w:=by
 obtain⟨hun,o',ho',_⟩:=mem_ready.1 hi
 have a9x:i<57:=by
  have:=(bw.1 ho').1;rw[K.sz]at this;exact this
 have v:i<l.size:=by rw[h.n];exact a9x
 have Vl:l.getD i false=false:=by
  have C:l.getD i true=l[i]:=by simp[v]
  have T:l.getD i false=l[i]:=by simp[v]
  rw[T,<-C];exact hun
 have r:(l.setIfInBounds i true).size=57:=by rw[Array.size_setIfInBounds];exact h.n
 rcases(show i=0\/(∃k,k<27/\i=2*k+1)\/(∃k,k<27/\i=2*k+2)\/i=55\/i=56 by
  by_cases h0:i=0
  ·exact .inl h0
  by_cases m:55<=i
  ·exact .inr (.inr (.inr M0))
  by_cases hp:i%2=1
  ·exact .inr (.inl ⟨i/2,M0,M0⟩)
  exact .inr (.inr (.inl ⟨i/2-1,M0,M0⟩)))with rfl|⟨k,g,rfl⟩|⟨k,g,rfl⟩|rfl|rfl
 ·obtain⟨o,z,f,hd,u⟩:=K.mk0
  rcases h.st with⟨_,hw,L,m,J⟩|⟨Y,_⟩
  ·subst hw
   have B:(execOp a.eval o).run prog w=.ok (.value (.map (some w.heap.size))) (w.alloc (.map #[] 0)):=by
    unfold execOp;simp only[f,b4Z,h2,run_makeMap,h1,io]
   refine rC z u B ?_;rw[hd];refine⟨r,by rw[AF];exact h.t,by rw[AE];exact h.df,uz h (λk _=>M0) (λk _ e=>by have I:(1:Nat)=k+2:=bj e;omega),.inr ⟨Ps v,w.heap.size,[],put_eq (d:=1) (by rw[h.t];decide),ag _,VC w,(gT _ _).alloc (ag _) _,List.nodup_nil,λj=>⟨(λp=>by cases p),?_⟩,λc=>?_,λc=>?_⟩⟩
   ·rintro⟨p,c⟩
    rw[eO M0,L j p]at c;cases c
   ·rw[eO M0,m]at c;cases c
   rw[eO M0,J]at c;cases c
  rw[Y]at Vl;cases Vl
 ·obtain⟨o,z,f,hd,u⟩:=K.bl k g
  have B:(execOp a.eval o).run prog w=.ok (.value (kV (kL k).1)) w:=by
   rw[XT g];have e:=Ui (ii[k]'g).1.1 (ii[k]'g).1.2 w;have T:(#[(0,Operand.const (S (ii[k]'g).1.1)),(1,Operand.const (S (ii[k]'g).1.2))]:Array (Nat×Operand)).map (λ(i,x)=>(i,a.eval x))=#[(0,S (ii[k]'g).1.1),(1,S (ii[k]'g).1.2)]:=by simp[Act.eval]
   unfold execOp;simp only[f,h2,T,e,h1,io]
  refine rC z u B ?_;rw[hd];refine⟨r,by rw[AF];exact h.t,by rw[AE];exact h.df,λj p c=>?_,?_⟩
  ·by_cases e:j=k
   ·subst e;exact put_eq (by rw[h.t];omega)
   rw[mR M0];exact h.ks j p (by rw[<-c,eO M0])
  rcases h.st with⟨Y,hw,L,m,J⟩|⟨Y,b,D,s1,s2,s3,M,N,s,P,R⟩
  ·exact .inl ⟨by rw[eO M0];exact Y,hw,λj p=>by rw[eO M0];exact L j p,by rw[eO M0];exact m,by rw[eO M0];exact J⟩
  refine .inr ⟨by rw[eO M0];exact Y,b,D,by rw[mR M0];exact s1,s2,s3,M,N,λj=>?_,λc=>?_,λc=>?_⟩
  ·rw[eO M0];exact s j
  ·rw[mR M0];exact P (by rw[<-c,eO M0])
  rw[mR M0];exact R (by rw[<-c,eO M0])
 ·obtain⟨o,z,f,hd,u⟩:=K.ins k g
  have q:=mA hi (rR K.d1 g);have hl1:=mA hi (rR K.d2 g);rcases h.st with⟨Y,_⟩|⟨Y,b,D,s1,s2,s3,M,N,s,P,R⟩
  ·rw[Y]at q;cases q
  have W:k∉D:=λhm=>by rw[((s k).mp hm).2]at Vl;cases Vl
  obtain⟨w',hrun,hm',hbel⟩:=VD s3 (kL k) (a0m (λj p=>((s j).mp p).1) g W)
  have B:(execOp a.eval o).run prog w=.ok .skip w':=by
   have C:a.eval 1=.map (some b):=qN s1;have T:a.eval (.tmp (k+2))=kV (kL k).1:=qN (h.ks k g hl1);have e3:a.eval (.const (.int .i64 (ii[k]'g).2))=.int .i64 (kL k).2:=by rw[XT g];rfl
   unfold execOp;simp only[f,C,T,e3,h2,hrun,h1,io]
  refine MQ z u B ?_;rw[hd];refine⟨r,h.t,h.df,uz h (λj _=>M0) (λj _ e=>by cases e),.inr ⟨by rw[eO M0];exact Y,b,D++[k],s1,s2,by rw[eY];exact hm',M.trans (hbel _ s2),?_,λj=>?_,λc=>P (by rw[<-c,eO M0]),λc=>R (by rw[<-c,eO M0])⟩⟩
  ·rw[List.nodup_append]
   exact⟨N,List.nodup_cons.mpr ⟨Oc,List.nodup_nil⟩,λx X y hy=>by rw[dS.mp hy];rintro rfl;exact W X⟩
  rw[bO,dS];by_cases e:j=k
  ·subst e
   exact⟨λ_=>⟨g,Ps v⟩,λ_=>.inr rfl⟩
  rw[eO M0,<-s j];exact⟨λh=>h.resolve_right e,.inl⟩
 ·obtain⟨o,z,f,hd,u⟩:=K.mv
  have q:=mA hi K.d3;rcases h.st with⟨Y,_⟩|⟨Y,b,D,s1,s2,s3,M,N,s,P,R⟩
  ·rw[Y]at q;cases q
  have B:(execOp a.eval o).run prog w=.ok (.value (.map (some b))) w:=by
   have C:a.eval 1=.map (some b):=qN s1;unfold execOp;simp only[f,C,io]
  refine rC z u B ?_;rw[hd];refine⟨r,by rw[AF];exact h.t,by rw[AE];exact h.df,uz h (λk _=>M0) b0g,.inr ⟨by rw[eO M0];exact Y,b,D,by rw[mR M0];exact s1,s2,s3,M,N,λj=>by rw[eO M0];exact s j,λ_=>put_eq (d:=29) (by rw[h.t];decide),λc=>?_⟩⟩;rw[mR M0];exact R (by rw[<-c,eO M0])
 obtain⟨o,z,f,hd,u⟩:=K.asg;have Va:=mA hi K.d4;rcases h.st with⟨Y,_,_,m,_⟩|⟨Y,b,D,s1,s2,s3,M,N,s,P,R⟩
 ·rw[m]at Va;cases Va
 have B:(execOp a.eval o).run prog w=.ok (.value (.map (some b))) w:=by
  have C:a.eval 29=.map (some b):=qN (P Va);unfold execOp;simp only[f,C,io]
 refine rC z u B ?_;rw[hd]
 refine⟨r,by rw[AF];exact h.t,by rw[AE];exact h.df,uz h (λk _=>M0) ne0,.inr ⟨by rw[eO M0];exact Y,b,D,by rw[mR M0];exact s1,s2,s3,M,N,λj=>by
  by_cases p:j<27
  ·rw[eO M0];exact s j
  rw[s j];exact⟨λh=>absurd h.1 p,λh=>absurd h.1 p⟩,λ_=>?_,λ_=>put_eq (d:=0) (by rw[h.t];decide)⟩⟩
 rw[mR M0];exact P Va
theorem Dw(n i:Nat):(Array.replicate n false).getD i false=false:=by
 rw[Yh,Array.getElem?_replicate]
 split <;>rfl
theorem As(K:YV ops)(Q:Exit->Act->H->Prop)(a:Act)(w:H)(o:a.tmps.size=30)(c:a.defers=[])
  (f:∀T b D w',T.size=30->T[0]?= some (Value.map (some b))->w.heap.size<=b->MapAt w' b D->List.Perm D ii->r7 w w'->Q .normal ⟨T,[]⟩ w'):wpAny prog .any ops Q ops.size (Array.replicate ops.size false) a w:=by
 refine zu (TU w) (λl a w' i h hi=>Gl K Q w l a w' i h hi) (λl a w' h m=>?_) _ _ _ _ ?_ ?_
 ·have hall:=EP K h.n m
  rcases h.st with⟨Y,_⟩|⟨Y,b,D,s1,s2,s3,p,q,r,s7,s⟩
  ·rw[hall 0 M0]at Y;cases Y
  obtain⟨T,e⟩:=a;obtain rfl:e=[]:=h.df;refine f T b (D.map kL) w' h.t (s (hall 56 M0)) s2 s3 ?_ p
  have hp:D.Perm (List.range 27):=by
   refine(List.perm_ext_iff_of_nodup q List.nodup_range).mpr λj=>?_;rw[r j,List.mem_range];exact⟨λh=>h.1,λh=>⟨h,hall _ M0⟩⟩
  have:=hp.map kL;rw[QD]at this;exact this
 ·rw[Array.toList_replicate,List.count_replicate_self]
  exact ag _
 refine⟨by rw[Array.size_replicate,K.sz],o,c,λk g d=>?_,.inl ⟨Dw _ _,rfl,λk g=>Dw _ _,Dw _ _,Dw _ _⟩⟩;rw[Dw]at d;cases d
theorem LC(w:H):Calls prog 18 #[] w λe w'=>∃b D,e=.returned (.map (some b))/\MapAt w' b D/\List.Perm D ii/\r7 w w':=by
 go_enter func18,ntmps18
 go_upto_region 1 with fail
 rename_i KK a
 refine wp_region_any Rz ?_;refine As ⟨rfl,⟨_,rfl,rfl,rfl,rfl⟩,?_,?_,⟨_,rfl,rfl,rfl,rfl⟩,⟨_,rfl,rfl,rfl,rfl⟩,Rz,Rz,Rz,Rz,Rz⟩ _ _ _ rfl rfl ?_
 iterate 2
  ·intro k d
   match k,d with
   |0,_|1,_|2,_|3,_|4,_|5,_|6,_|7,_|8,_|9,_|10,_|11,_|12,_|13,_|14,_|15,_|16,_|17,_|18,_|19,_|20,_|21,_|22,_|23,_|24,_|25,_|26,_=>exact⟨_,rfl,rfl,rfl,rfl⟩
   |n+27,h=>exact absurd h M0
 intro T b D w' hT c hle hm hp U;refine a _ _ ?_;refine wp_ret ?_;refine bodyPost_ret (v:=.map (some b)) ?_ rfl ⟨b,D,rfl,hm,hp,⟨U.os,U.tape,U.output,U.size,U.block⟩⟩;simp[results,results18,c]
theorem Dc(el nm:O)(w:H)(Y:el.length<=1000000)(I:nm.length<=1000000):bF prog 8 #[.string (E el),.string (E nm)] w (.int .i64 (gA el nm)):=by
 have f:=λW=>qD el W (am Y P8);have g:=λW=>qD nm W (am I P8);obtain⟨x,j,nb,d,n,a,p,c⟩:=aA (E el) (E nm) (E (fG el)) (E (fG nm));have u:=fo (∀W,bF prog 19 #[.string x] W (.string n)) (by rw[j,a];exact f);have h:=fo (∀W,bF prog 19 #[.string nb] W (.string p)) (by rw[d,c];exact g);obtain⟨R,k⟩:=V (gA el nm)
 have i:=F<|λ(W:H) (b:Nat) (D:List ((O×O)×Int)) (hm:MapAt W b D) (hp:D.Perm ii)=>(show(Instr.lookup 57 (.map (some b)) (.agg #[.string n,.string p]) false).run prog W=.ok (.int .i64 R) W from by
  rw[a,c,k];have e:=VB hm (fG el,fG nm);rw[UT hp Vr]at e;exact e)
 rw[<-j,<-d,<-k];have v:=F<|λW=>LC W;clear f g j d a c k Y I;go_enter func8,ntmps8
 go_upto_region 1 with fail
 go_wp2_with(first|(go_at_call 18;refine(v.o _).m ?_;rintro e w2⟨b,D,rfl,hm,hp,U⟩;obtain⟨s,t,q⟩:=cZ hm hp U;clear hm hp U)|(go_at_call 19;(with_reducible refine(u.o _).m ?_);rintro e w3⟨rfl,U⟩;have l:=F U;clear U)|(go_at_call 19;(with_reducible refine(h.o _).m ?_);rintro e y⟨rfl,U⟩;have hg:=i.o y b D ((s.o.below l.o).below U) t.o;have r:=F U;clear U))
 go_ret;exact⟨rfl,dw (dw q.o l.o) r.o⟩
