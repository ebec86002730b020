import Derived.Test.YtagfilhbpnjhkaaGreatDoorFGRdsL
import Derived.Test.YtagfilhbpnjhkaaGreatDoorFGMimD
set_option maxRecDepth 10000
set_option maxHeartbeats 0
namespace Go.Proofs.Q
open Tryz Go.RowKit
variable{w':H}{hv sv tv:Z}
abbrev ns(p:qh)(b:Url)(el nm raw:O):List eu:=(mg (gA el nm) b (jw raw)).items.filter (jO p (gA el nm))
theorem EW{p:qh}{b:Url}{el nm raw:O}(f:gA el nm≠0)(g:oy b=true)(h:(dQ p b el nm raw).kind≠3) :
  ∃y:Int,dQ p b el nm raw=iu y/\y≠2/\(ns p b el nm raw=[]\/p.most<(raw.length:Int)\/(ns p b el nm raw ≠ []/\p.most<((kK (gA el nm) (ns p b el nm raw) (mg (gA el nm) b (jw raw)).delay).length:Int)))/\((y≠4/\y≠3)\/ns p b el nm raw=[]):=by
 revert h;unfold dQ;rw[gc f]
 split
 ·next Y=>exact λ_=>⟨1,rfl,P8,.inr (.inl Y),.inl ⟨P8,P8⟩⟩
 rw[gc (by rw[g];simp)]
 split
 ·next c =>
  have he:ns p b el nm raw=[]:=by
   unfold ns;rw[List.filter_eq_nil_iff];intro i hi hp;have d:=(a6s hp).1;have:(mg (gA el nm) b (jw raw)).items.any (·.right)=true:=m8.mpr ⟨i,hi,d⟩;rw[c]at this;cases this
  exact λ_=>⟨3,rfl,P8,.inl he,.inr he⟩
 split
 ·next a=>exact λ_=>⟨4,rfl,P8,.inl a,.inr a⟩
 next a =>
 split
 ·next e=>exact λ_=>⟨1,rfl,P8,.inr (.inr ⟨a,e⟩),.inl ⟨P8,P8⟩⟩
 exact λh=>absurd rfl h
theorem Fi{u:Url}(g:Good u):dA u true ≠ []/\Lib.hasPrefix (dA u true) [44]=false:=by
 obtain⟨x,r,e,X⟩:=b0V g;rw[e];refine⟨Oc,?_⟩
 have a:(44:UInt8)≠x:=by
  rintro rfl;revert X;decide
 unfold Lib.hasPrefix;rw[List.isPrefixOf];simp[a]
theorem a15{p:qh}{kind:Int}{i:eu}(g:i.right=true->Good i.url):jO p kind i=(i.right&&uP p i.url&&(decide (kind≠2)||(decide ((EZ (dA i.url true)).length=1)&&decide (trimB mw (dA i.url true)=dA i.url true) && !(Lib.hasSuffix (dA i.url true) [44])))):=by
 unfold jO;cases a:i.right with
 |false=>rfl
 |true =>
  have h:=Fi (g a);rw[PF h.1 h.2]

theorem qG(l:List O)(x:O)(v:Z)(w:H){B:Nat}(h:Sl B w v (l.map S))(hl:l.length<=1024000000) :
  bP prog 127 #[v,.string (E x)] w (.bool (decide (x∈l))):=by
 obtain⟨c,Y,I,h⟩:=h;rcases h with⟨i,a,rfl⟩|⟨b,o,U,rfl,g⟩
 ·obtain rfl:l=[]:=by simpa using i
  refine(Any.slices_Contains_string_empty laysCon a c (E x) w).e ?_;exact⟨by rw[gh Oc],rfl⟩
 refine(Any.slices_Contains_string laysCon b o (l.map S).length c (l.map E) (E x) w Oc (by simp;omega) (λj d=>by
  rw[ay]at d;rw[g j (by simpa using d),oX d,cU])).m ?_
 rintro e w'⟨rfl,rfl⟩;refine⟨?_,rfl⟩
 have f:Lib.containsS ((l.map E).take (l.map S).length) (E x)=decide (x∈l):=by
  rw[aP Oc,bX,Lib.containsS_iff,gx,dt];constructor
  ·rintro⟨y,hy,e⟩
   rw[<-Og e];exact hy
  exact λh=>⟨x,h,rfl⟩
 rw[f]
abbrev aY(sv hv tv:Z)(m:Int):Array Z:=#[sv,hv,tv,.int .i64 m]
structure b6w (w:H) (sv hv tv:Z) (p:qh):Prop where
 s:Sl w.heap.size w sv (p.schemes.map S)
 h:Sl w.heap.size w hv (p.hosts.map S)
 t:Sl w.heap.size w tv (p.types.map S)
 n:p.schemes.length<=1000/\p.hosts.length<=1000/\p.types.length<=1000
 x:∀y∈p.hosts,List.length y<=1000000
theorem b6w.below{w:H}{p:qh}(h:b6w w sv hv tv p)(U:r7 w w'):b6w w' sv hv tv p :=
 ⟨(h.s.below U).more U.size,(h.h.below U).more U.size,(h.t.below U).more U.size,h.n,h.x⟩
theorem Dm(p:qh)(x:O)(sv hv tv:Z)(w:H)(h:b6w w sv hv tv p):bF prog 79 #[.agg (aY sv hv tv p.most),.string (E x)] w (.bool (decide (x∈p.schemes))):=by
 obtain⟨g,f,c⟩:=cZ (λW (U:r7 w W)=>qG p.schemes x sv W (h.s.below U) (by have:=h.n;omega)) (CB.new w 24 (aY sv hv tv p.most)) ((gT w.heap.size w).alloc (ag _) (.cells (aY sv hv tv p.most) 24));obtain⟨w1,d⟩:=ey (w.alloc (.cells (aY sv hv tv p.most) 24));rw[<-d.o]at f c;obtain⟨q,i,xb,X⟩:=ac (decide (x∈p.schemes)) (E x);rw[<-i,<-X]at g⊢;clear i X h;go_enter func79,ntmps79
 go_upto_region 1 with fail
 rw[<-d.o]
 go_wp2_with(first|((with_reducible apply bS);refine yx rfl 5 rfl w.heap.size 24 (aY sv hv tv p.most) f.o 0 sv rfl rfl ?_)|(go_at_call 127;refine(g.o _ c.o).e ?_))
 go_ret;exact⟨rfl,c.o⟩
theorem L5(p:qh)(x:O)(sv hv tv:Z)(w:H)(h:b6w w sv hv tv p):bF prog 82 #[.agg (aY sv hv tv p.most),.string (E x)] w (.bool (decide (x∈p.types))):=by
 obtain⟨g,f,c⟩:=cZ (λW (U:r7 w W)=>qG p.types x tv W (h.t.below U) (by have:=h.n;omega)) (CB.new w 24 (aY sv hv tv p.most)) ((gT w.heap.size w).alloc (ag _) (.cells (aY sv hv tv p.most) 24));obtain⟨w1,d⟩:=ey (w.alloc (.cells (aY sv hv tv p.most) 24));rw[<-d.o]at f c;obtain⟨q,i,xb,X⟩:=ac (decide (x∈p.types)) (E x);rw[<-i,<-X]at g⊢;clear i X h;go_enter func82,ntmps82
 go_upto_region 1 with fail
 rw[<-d.o]
 go_wp2_with(first|((with_reducible apply bS);refine yx rfl 5 rfl w.heap.size 24 (aY sv hv tv p.most) f.o 2 tv rfl rfl ?_)|(go_at_call 127;refine(g.o _ c.o).e ?_))
 go_ret;exact⟨rfl,c.o⟩

section
variable {ops:Array Oper} {rest:List Oper} {o:Oper} {a:Act} {w:H} {Q:Exit->Act->H->Prop}
theorem tY(d:Region.wanted o (yielded ops a.tmps)=true)(x:Operand)(e:o.op=.load 3 x)(b k:Nat)(T:TypeId)(cs:Array Z)(i:CB w b T cs)(v:Z)(c:cs[k]?= some v)(X:a.eval x=.pointer (some ⟨b,k,none⟩))(K:wpList prog ops Q rest (a.put o.dst v) w):wpList prog ops Q (o::rest) a w :=
  nj d v (bK 3 x e b k v _ underlying3 rfl X (i.aE c)) K
theorem FO(d:Region.wanted o (yielded ops a.tmps)=true)(x:Operand)(e:o.op=.load 9 x)(b k:Nat)(T:TypeId)(cs:Array Z)(i:CB w b T cs)(v:Z)(c:cs[k]?= some v)(X:a.eval x=.pointer (some ⟨b,k,none⟩))(K:wpList prog ops Q rest (a.put o.dst v) w):wpList prog ops Q (o::rest) a w :=
  nj d v (bK 9 x e b k v _ underlying9 rfl X (i.aE c)) K
theorem gwr(d:Region.wanted o (yielded ops a.tmps)=true)(x:Operand)(e:o.op=.load 22 x)(b k:Nat)(T:TypeId)(cs:Array Z)(i:CB w b T cs)(v:Z)(c:cs[k]?= some v)(X:a.eval x=.pointer (some ⟨b,k,none⟩))(K:wpList prog ops Q rest (a.put o.dst v) w):wpList prog ops Q (o::rest) a w :=
  nj d v (bK 22 x e b k v _ underlying22 rfl X (i.aE c)) K
end
theorem qd(w:H)(c h:TypeId)(d i:Array Z):∃W,(w.alloc (.cells d c)).alloc (.cells i h)=W/\W.heap.size=w.heap.size+2/\CB W w.heap.size c d/\CB W (w.heap.size+1) h i/\r7 w W:=by
  have X:=CB.new w c d;have U:=(gT w.heap.size w).alloc (ag _) (.cells d c);obtain⟨j,f⟩:=V (w.alloc (.cells d c));have g:j.heap.size=w.heap.size+1:=by rw[f];simp
  rw[<-f]at X U⊢;have hy:=CB.new j h i;have e:=(gT j.heap.size j).alloc (ag _) (.cells i h);refine⟨_,rfl,by simp[g],X.keep e,?_,dw U e⟩;rw[<-g];exact hy
theorem Vh(u m:O)(w:H)(hu:u.length<=1024000000):bP prog 84 #[.string (E u),.string (E m)] w (.bool (Lib.hasSuffix u m)):=by
  have h:=Any.strings_HasSuffix laysHS (E u) (E m) w (by rw[aF];omega);rw[show(E u).data.toList=u from cW u,show(E m).data.toList=m from cW _]at h;exact h
theorem h_size{h:gF}(c:h.six.length=8):(aT h).size=11:=by simp[aS,c]
theorem PG:(prog.info? 32).map (·.size)=some 11:=Rz
theorem ZZ{h:gF}(ok:sV h):By (aT h) h:=CS ok
theorem LZ(p:qh)(h:gF)(sv hv tv:Z)(w:H)(hp:b6w w sv hv tv p)(ok:sV h)(J:h.name.length<=102400000)(T:NE w) :
    bF prog 80 #[.agg (aY sv hv tv p.most),.agg (aT h)] w (.bool (mC p h)):=by
  have MZ:=F<|λW (U:r7 w W)=>vJ h (aT h) W (ZZ ok) J (T.below U);obtain⟨R,hR⟩:=V (mC p h);rw[<-hR];have HR:=F hR;obtain⟨i,B⟩:=V (h.kind);have t:=F (show(aT h)[0]?= some (.int .i64 i) by rw[B];rfl);have uA:=F B;obtain⟨nb,D⟩:=V (E h.name);obtain⟨rE,MW,S1,eM⟩:=dT (show(aT h)[1]?= some (.string nb) by rw[D];rfl) D J (h_size ok.l);obtain⟨tb,K⟩:=V (E (lJ h));have Hy:=F K;have zG:=fo (∀W,r7 w W->bF prog 30 #[.agg (aT h)] W (.string tb)) (by rw[K];exact MZ.o);obtain⟨N,T⟩:=V (p.hosts.length);have d:=F T
  obtain⟨av,cc,hhv⟩:∃a c,hv=.slice a N c:=by
    obtain⟨a,c,e⟩:=cQ hp.h;exact⟨a,c,by rw[e,ay,T]⟩
  have mX:=F (show N<=1000 by rw[T];exact hp.n.2.1);have Xa:=F hp.x;subst hhv;have HHV:=F<|λW (U:r7 w W)=>hp.h.below U;clear MZ hR B D K T hp ok J;obtain⟨W,hw,hsz,c1,c2,G⟩:=qd w 24 32 (aY sv (.slice av N cc) tv p.most) (aT h);obtain⟨C1,v,B2,HW,HSW⟩:=ec c1 c2 G hw hsz;clear c1 c2 G hw hsz;by_cases k0:i=0
  · have d:=F (show R=true by rw[HR.o];unfold mC;rw[gr (.inl (by rw[<-uA.o];exact k0))];rfl)
    go_enter func80,ntmps80
    go_upto_region 1 with fail
    rw[HW.o];subst k0
    go_wp2_with((with_reducible apply bS);refine tY r5 8 rfl (w.heap.size+1) 0 32 (aT h) v.o (.int .i64 0) t.o rfl ?_)
    go_ret;exact⟨by rw[d.o];rfl,B2.o⟩
  by_cases k1:i=1
  · have d:=F (show R=true by rw[HR.o];unfold mC;rw[gr (.inr (by rw[<-uA.o];exact k1))];rfl)
    go_enter func80,ntmps80
    go_upto_region 1 with fail
    rw[HW.o];subst k1
    go_wp2_with((with_reducible apply bS);first|refine tY r5 8 rfl (w.heap.size+1) 0 32 (aT h) v.o (.int .i64 1) t.o rfl ?_|refine tY r5 12 rfl (w.heap.size+1) 0 32 (aT h) v.o (.int .i64 1) t.o rfl ?_)
    go_ret;exact⟨by rw[d.o];rfl,B2.o⟩
  have HRH:=F (show R=p.hosts.any (mD h) by
    rw[HR.o];unfold mC
    rw[gh (by rw[<-uA.o];rintro(e|e);(·exact k0 e);exact k1 e)]
    rfl)
  have q0:(i==0)=false:=by simpa using k0
  have q1:(i==1)=false:=by simpa using k1
  go_enter func80,ntmps80
  go_upto_region 1 with fail
  rw[HW.o]
  go_upto_region 4 with(first|((with_reducible apply bS);first|refine tY r5 8 rfl (w.heap.size+1) 0 32 (aT h) v.o (.int .i64 i) t.o rfl ?_|refine tY r5 12 rfl (w.heap.size+1) 0 32 (aT h) v.o (.int .i64 i) t.o rfl ?_|refine vR r5 32 3 rfl (w.heap.size+1) (aT h) _ underlying32 rfl (by rw[eM.o];exact PG) rfl v.o ?_)|(go_at_call 30;refine(zG.o _ B2.o).k λw3 U=>?_;obtain⟨P,D1,s⟩:=cZ (dw B2.o U.o) (C1.o.keep U.o) (v.o.keep U.o);clear U))
  go_upto_region 5 with((with_reducible apply bS);refine gwr r5 18 rfl w.heap.size 1 24 (aY sv (.slice av N cc) tv p.most) D1.o (.slice av N cc) rfl rfl ?_)
  obtain⟨w4,L⟩:=V (w3);have H4:=F L;rw[<-L]at P D1 s⊢;clear L C1 v B2 HW zG HR;have oP:N<=1000:=mX.o
  go_loopw [7,21] (λ_ iv wr=>∃k:Nat,k<=N/\iv=.int .i64 k/\Hid (∀j (z:j<p.hosts.length),j<k->mD h p.hosts[j]=false)/\w4=wr) (λ_ iv _=>N-(intOf iv).toNat)
  exact⟨0,M0,Oc,λj z h=>M0,rfl⟩
  obtain⟨k,hk,rfl,hd,rfl⟩:=hrel;by_cases hlt:k<N
  · have C:k<p.hosts.length:=by have:=d.o;omega
    have X:=Xa.o _ (be C);obtain⟨b,o,rfl,hbb,hcc⟩:=gO (HHV.o _ P.o) k C;have g:=F (λ(e:mD h p.hosts[k]=true)=>show R=true by rw[HRH.o];exact m8.mpr ⟨_,be C,e⟩)
    have f:=F (λ(e:mD h p.hosts[k]=false)=>show ∀j (z:j<p.hosts.length),j<k+1->mD h p.hosts[j]=false from λj z hjk=>by
      by_cases e2:j=k
      · subst e2;exact e
      exact hd.o j z M0)
    have hh:mD h p.hosts[k]=(decide (p.hosts[k]=lJ h)||decide (p.hosts[k]=[42])||(Lib.hasPrefix p.hosts[k] [46]&&decide (h.kind=2)&&decide (p.hosts[k].length<h.name.length)&&Lib.hasSuffix h.name p.hosts[k])):=rfl;rw[hh]at g f;rw[<-uA.o]at g f;clear hh hd;generalize p.hosts[k]=x at hcc X g f;obtain⟨xb,q⟩:=V (E x);rw[show S x=.string xb by rw[q]]at hcc;have e1:(xb.toList==tb.toList)=decide (x=lJ h):=by rw[q,Hy.o,aB,aB,jB]
    have e2:(xb.toList == [42])=decide (x=[42]):=by rw[q,aB,jB]
    have rH:=λW=>mE x [46] W;have r:=λW=>Vh h.name x W (am S1.o P8);rw[<-q]at rH r;rw[<-MW.o]at r;obtain⟨M,hM,X',hX⟩:=ac (h.name.length) (x.length);have hMs:nb.size=M:=by rw[MW.o,aF,hM]
    have hXs:xb.size=X':=by rw[q,aF,hX]
    rw[<-hM,<-hX]at g f;generalize decide (x=lJ h)=r1 at e1 g f;generalize decide (x=[42])=r2 at e2 g f;generalize Lib.hasPrefix x [46]=r3 at rH g f;generalize Lib.hasSuffix h.name x=r6 at r g f;have tS:=fo (∀W,bP prog 83 #[.string xb,.string ⟨#[46]⟩] W (.bool r3)) rH;have SX:=F r;clear rH r q hM hX X;cases r1 with
    |true =>
      have d:=F<|g.o Oc;clear g f;go_wp2_with fail;go_ret;exact⟨by rw[d.o];rfl,P.o⟩
    |false =>
      cases r2 with
      |true =>
        have d:=F<|g.o Oc;clear g f;go_wp2_with fail;go_ret;exact⟨by rw[d.o];rfl,P.o⟩
      |false =>
        cases r3 with
        |false =>
          have d:=F<|f.o Oc;clear g f
          go_wp2_with(go_at_call 83;refine(tS.o _).e ?_)
          go_roundw
          exact⟨k+1,M0,by go_num,d.o,by trivial⟩
          exact aa
        |true =>
          by_cases y:i=2
          · have q2:(i==2)=true:=by rw[y];rfl
            by_cases h5:X'<M
            · have h5i:(X':Int)<M:=by omega
              cases r6 with
              |true =>
                have d:=F<|g.o (by rw[gr y,gr h5];rfl);clear g f y
                go_wp2_with(first|((with_reducible apply bS);first|refine tY r5 35 rfl (w.heap.size+1) 0 32 (aT h) s.o (.int .i64 i) t.o rfl ?_|refine FO r5 40 rfl (w.heap.size+1) 1 32 (aT h) s.o (.string nb) rE.o rfl ?_|refine FO r5 48 rfl (w.heap.size+1) 1 32 (aT h) s.o (.string nb) rE.o rfl ?_)|(go_at_call 83;refine(tS.o _).e ?_)|(go_at_call 84;refine(SX.o _).e ?_))
                go_ret;exact⟨by rw[d.o];rfl,P.o⟩
              |false =>
                have d:=F<|f.o (by rw[gr y,gr h5];rfl);clear g f y
                go_wp2_with(first|((with_reducible apply bS);first|refine tY r5 35 rfl (w.heap.size+1) 0 32 (aT h) s.o (.int .i64 i) t.o rfl ?_|refine FO r5 40 rfl (w.heap.size+1) 1 32 (aT h) s.o (.string nb) rE.o rfl ?_|refine FO r5 48 rfl (w.heap.size+1) 1 32 (aT h) s.o (.string nb) rE.o rfl ?_)|(go_at_call 83;refine(tS.o _).e ?_)|(go_at_call 84;refine(SX.o _).e ?_))
                go_roundw
                exact⟨k+1,M0,by go_num,d.o,by trivial⟩
                exact aa
            have h5i:¬(X':Int)<M:=M0;have d:=F<|f.o (by rw[gh h5];simp);clear g f y
            go_wp2_with(first|((with_reducible apply bS);first|refine tY r5 35 rfl (w.heap.size+1) 0 32 (aT h) s.o (.int .i64 i) t.o rfl ?_|refine FO r5 40 rfl (w.heap.size+1) 1 32 (aT h) s.o (.string nb) rE.o rfl ?_)|(go_at_call 83;refine(tS.o _).e ?_))
            go_roundw
            exact⟨k+1,M0,by go_num,d.o,by trivial⟩
            exact aa
          have q2:(i==2)=false:=by simpa using y
          have d:=F<|f.o (by rw[gh y];simp);clear g f
          go_wp2_with(first|((with_reducible apply bS);refine tY r5 35 rfl (w.heap.size+1) 0 32 (aT h) s.o (.int .i64 i) t.o rfl ?_)|(go_at_call 83;refine(tS.o _).e ?_))
          go_roundw
          exact⟨k+1,M0,by go_num,d.o,by trivial⟩
          exact aa
  obtain rfl:k=N:=M0
  have mh:=F (show R=false by
    rw[HRH.o,M6];intro x X;obtain⟨j,z,rfl⟩:=cC X;rw[hd.o j z (by rw[d.o];exact z)];simp)
  clear hd;go_wp2_with fail;go_ret;exact⟨by rw[mh.o];rfl,P.o⟩

def a1k(kind:Int):O×O :=
 if kind%4=1 then([97],[104,114,101,102])
 else if kind%4=2 then([105,109,103],[115,114,99,115,101,116])
 else if kind%4=3 then([109,101,116,97],[99,111,110,116,101,110,116])
 else([98,111,100,121],[98,97,99,107,103,114,111,117,110,100])
theorem a1R(kind:Int):(a1k kind).1.length<=300/\(a1k kind).2.length<=300:=by
 unfold a1k
 split
 ·decide
 split
 ·decide
 split <;>decide
structure EL (p:qh):Prop where
 s:p.schemes.length<=20/\∀x∈p.schemes,List.length x<=200
 h:p.hosts.length<=20/\∀x∈p.hosts,List.length x<=200
 t:p.types.length<=20/\∀x∈p.types,List.length x<=200
structure BB (w:H) (sv hv tv:Z) (p:qh):Prop where
 s:Sl w.heap.size w sv (p.schemes.map S)
 h:Sl w.heap.size w hv (p.hosts.map S)
 t:Sl w.heap.size w tv (p.types.map S)
theorem BB.below{w:H}{p:qh}(h:BB w sv hv tv p)(U:r7 w w'):BB w' sv hv tv p :=
 ⟨(h.s.below U).more U.size,(h.h.below U).more U.size,(h.t.below U).more U.size⟩
theorem BB.at{w:H}{p:qh}(h:BB w sv hv tv p)(f:EL p):b6w w sv hv tv p :=
 ⟨h.s,h.h,h.t,⟨by have:=f.s.1;omega,by have:=f.h.1;omega,by have:=f.t.1;omega⟩,λy hy=>am (f.h.2 y hy) P8⟩

theorem RF(t:ByteArray)(w:H)(ub:t.size<=1048576)(p:Env w):Calls prog 6 #[.string t] w (a4x t w (eF (ls t))):=by
 have hp:=λ(W:H) (z:r7 w W)=>xg (ls t) W (by rw[nD];omega) (p.below z);rw[kt]at hp;cases h:eF (ls t)with
 |none =>
  rw[h]at hp;have k:=fo (∀W,r7 w W->bF prog 17 #[.string t] W (.tuple #[.agg (ai aI U0),.bool false])) hp;clear hp h p;go_enter func6,ntmps6
  go_upto_region 1 with(refine aM rfl 34 rfl _ _ (eD _) ?_)
  have d:=F<|OB.fresh w 34 (ai aI U0);generalize w.alloc (.cells (ai aI U0) 34)=B at d⊢
  go_wp2_with(first|(go_at_call 17;refine(k.o _ d.o.bL).k λC U=>?_;have l:=F<|d.o.below U.o;clear U)|(refine aM rfl 34 rfl _ _ (eD _) ?_)|(refine fL rfl 4 9 rfl aI U0 rfl rfl rfl rfl rfl ?_;intro D g U;have j:=F g;have n:=F<|l.o.below U;clear g U)|(refine cR r5 4 rfl _ aI U0 rfl rfl j.o ?_)|(refine fV rfl 2 11 rfl w w.heap.size n.o aI U0 rfl rfl rfl rfl ?_;intro J i5 _;have f:=F i5;clear i5))
  exact xf (u:=U0) (q:=false) results6 rfl rfl rfl f.o ⟨rfl,f.o.bL⟩
 |some u =>
  rw[h]at hp;have k:=fo (∀W,r7 w W->Calls prog 17 #[.string t] W λe w'=>∃A,e=.returned (.tuple #[.agg (ai A u),.bool true])/\w'.ownsRow W.heap.size 9 1 A u.path.length (Strs u.path)/\r7 W w') hp;have i:=F<|Ds h;clear hp h p;obtain⟨q,r⟩:=V (decide (t.size<=300));show Calls _ _ _ _ λe w'=>∃A,e=.returned (.tuple #[.agg (ai A u),.bool (decide (t.size<=300))])/\w'.ownsRow w.heap.size 9 1 A u.path.length (Strs u.path)/\r7 w w';rw[<-r];have hqi:decide ((t.size:Int)<=300)=q:=by rw[r,decide_eq_decide];omega
  clear r;cases q <;>
  ·go_enter func6,ntmps6
   go_upto_region 1 with(refine aM rfl 34 rfl _ _ (eD _) ?_)
   have d:=F<|OB.fresh w 34 (ai aI U0);generalize w.alloc (.cells (ai aI U0) 34)=B at d⊢
   go_wp2_with(first|(go_at_call 17;refine(k.o _ d.o.bL).m ?_;rintro e C⟨A,rfl,x,U⟩;have l:=F<|d.o.below U;have s:=F<|ea x (show w.heap.size+1<=_ from d.o.lt);clear U x)|(refine aM rfl 34 rfl _ _ (eD _) ?_)|(refine fL rfl 4 9 rfl A u i.o (bm s.o) rfl rfl rfl ?_;intro D g U;obtain⟨j,n,v⟩:=cZ g (l.o.below U) (own_below' s.o U);clear g U)|(refine cR r5 4 rfl _ A u i.o rfl j.o ?_)|(refine fV rfl 2 11 rfl w w.heap.size n.o A u i.o (bm v.o) rfl rfl ?_;intro J i5 t5;have f:=F i5;have y:=F<|ea (t5.row v.o (bV _)) (gQ _);clear i5 t5))
   exact xf (u:=u) results6 i.o rfl rfl f.o ⟨A,rfl,y.o,f.o.bL⟩
theorem a11(t:ByteArray)(w:H)(j:t.size<=1048576)(g:Env w):∃(u:Url) (q:Bool),u.host.six.length=8/\(q=true->eF (ls t)=some u/\(ls t).length<=300) /\
  ∀W,r7 w W->Calls prog 6 #[.string t] W λe w'=>∃A,e=.returned (.tuple #[.agg (ai A u),.bool q])/\A.oneCell'=true/\Sl w'.heap.size w' A (u.path.map S)/\(∀b d,b<W.heap.size->Tn b w' d->Sl d.heap.size d A (u.path.map S))/\r7 W w':=by
 have U:=λ(W:H) (c:r7 w W)=>RF t W j (g.below c);cases h:eF (ls t)with
 |none =>
  rw[h]at U;exact⟨U0,false,rfl,(λh=>by cases h),λW c=>(U W c).m λe w' ⟨Y,I⟩=>⟨aI,Y,rfl,Sl.nil,λ_ _ _ _=>Sl.nil,I⟩⟩
 |some u =>
  rw[h]at U;exact⟨u,decide (t.size<=300),Ds h,λi=>⟨rfl,by rw[nD];exact of_decide_eq_true i⟩,λW c=>(U W c).m λe w' ⟨A,Y,I,f⟩=>⟨A,Y,bm I,Sl.g9 (sB I),λ_ _ U t=>Sl.g9 (sB (t.row I U)),f⟩⟩
def kp(n:Int):O×O :=
 if n%9=1 then([105,109,103],[115,114,99,115,101,116])
 else if n%9=2 then([77,101,116,97],[67,79,78,84,69,78,84])
 else if n%9=3 then([115,111,117,114,99,101],[115,114,99,115,101,116])
 else if n%9=4 then([115,99,114,105,112,116],[115,114,99])
 else if n%9=5 then([111,98,106,101,99,116],[100,97,116,97])
 else if n%9=6 then([102,111,114,109],[97,99,116,105,111,110])
 else if n%9=7 then([108,105,110,107],[105,109,97,103,101,115,114,99,115,101,116])
 else if n%9=8 then([97],[116,105,116,108,101])
 else([97],[104,114,101,102])
theorem b8n(n:Int):(kp n).1.length<=300/\(kp n).2.length<=300:=by
 unfold kp
 repeat' split
 all_goals decide
theorem uk(n:Int)(w:H)(e:0<=n):bP prog 7 #[.int .i64 n] w (.tuple #[S (kp n).1,S (kp n).2]):=by
 have h:Int.tmod n 9=n%9:=ei e;have g:0<=n%9/\n%9<9:=M0;obtain⟨R,c⟩:=V (kp n);rw[<-c];unfold kp at c;obtain⟨r,d⟩:=V (n%9);rw[<-d]at c h g;have f:=F c;clear c d e;have hw:IntKind.i64.wrap r=r:=gS _ M0;rcases(show r=1\/r=2\/r=3\/r=4\/r=5\/r=6\/r=7\/r=8\/r=0 by omega)with rfl|rfl|rfl|rfl|rfl|rfl|rfl|rfl|rfl
 all_goals
  go_enter func7,ntmps7;go_wp2_with fail
  go_ret2
  exact⟨by rw[f.o];rfl,rfl⟩

theorem b6H(a:O):(match a with | []=>false|x::_=>decide (x=46))=(if h:0<a.length then decide (G a[0]=46)else false):=by
 cases a with
 |nil=>rfl
 |cons x r =>
  rw[dif_pos Oc];show decide (x=46)=decide (G x=46);rw[decide_eq_decide];exact⟨λh=>by rw[h];decide,λh=>eX (h.trans P8)⟩
inductive c1r (h:gF) (a:O) (xb nb:ByteArray):Prop
 |none (e:xb.toList=[]) (r:b4z h a=false)
 |byte (e:¬xb.toList=[]) (hz:0<xb.size) (c:Int) (X:((xb[0]'hz).toNat:Int)=c) (hc:¬c=46) (r:b4z h a=false)
 |kind (e:¬xb.toList=[]) (hz:0<xb.size) (X:((xb[0]'hz).toNat:Int)=46) (hk:¬h.kind=2) (r:b4z h a=false)
 |size (e:¬xb.toList=[]) (hz:0<xb.size) (X:((xb[0]'hz).toNat:Int)=46) (hk:h.kind=2) (hs:¬xb.size<nb.size) (r:b4z h a=false)
 |tail (e:¬xb.toList=[]) (hz:0<xb.size) (X:((xb[0]'hz).toNat:Int)=46) (hk:h.kind=2) (hs:xb.size<nb.size) (D:Nat) (hD:D+xb.size=nb.size) (q:Bool) (hq:((nb.extract D nb.size).toList==xb.toList)=q) (r:b4z h a=q)
theorem c2U(h:gF)(a:O):c1r h a (E a) (E h.name):=by
 have hd:=(b7g h a).trans (congrArg (λq=>decide (h.kind=2)&&(decide (a.length<h.name.length)&&q&&decide (h.name.drop (h.name.length-a.length)=a))) (b6H a));by_cases f:a=[]
 ·exact .none (by rw[aB,f]) (by rw[hd,dif_neg (by rw[f];simp)];simp)
 have e:¬(E a).toList=[]:=by rw[aB];exact f
 have hp:0<a.length:=eo.mpr f;have c:0<(E a).size:=by rw[aF];exact hp
 have X:(((E a)[0]'c).toNat:Int)=G a[0]:=cy rfl c hp;rw[dif_pos hp]at hd;by_cases g:G a[0]=46
 ·rw[g]at X
  by_cases d:h.kind=2
  ·by_cases i:a.length<h.name.length
   ·refine .tail e c X d (by rw[aF,aF];exact i) (h.name.length-a.length) (by rw[aF,aF];omega) (decide (h.name.drop (h.name.length-a.length)=a)) ?_ (by rw[hd];simp[d,i];exact λ_=>g)
    rw[aF,gn h.name _ _ rfl,aB,aB,jB]
   exact .size e c X d (by rw[aF,aF];exact i) (by rw[hd];simp[i])
  exact .kind e c X d (by rw[hd];simp[d])
 exact .byte e c _ X g (by rw[hd];simp;exact λ_ _ h=>absurd h g)

section
variable {ops:Array Oper} {rest:List Oper} {o:Oper} {a:Act} {w:H} {Q:Exit->Act->H->Prop}
theorem wn:(prog.info? 24).map (·.size)=some 4:=Rz
theorem fj(c:Region.wanted o (yielded ops a.tmps)=true)(x:Operand)(d:o.op=.load 24 x)(b:Nat)(sv hv tv:Z)(m:Int)(X:a.eval x=.pointer (some ⟨b,0,none⟩))(i:CB w b 24 (aY sv hv tv m))(k:wpList prog ops Q rest (a.put o.dst (.agg (aY sv hv tv m))) w):wpList prog ops Q (o::rest) a w :=
 vR c 24 x d b (aY sv hv tv m) _ underlying24 rfl wn X i k
theorem XE(d:Region.wanted o (yielded ops a.tmps)=true)(x:Operand)(e:o.op=.load 32 x)(b:Nat)(A:Z)(u:Url)(c:u.host.six.length=8)(X:a.eval x=.pointer (some ⟨b,3,none⟩))(i:CB w b 34 (ai A u))(k:wpList prog ops Q rest (a.put o.dst (.agg (aT u.host))) w):wpList prog ops Q (o::rest) a w :=
 nj d _ (gU 32 x e b 3 (aS u.host) _ underlying32 rfl (by rw[show(aS u.host).length=11 by simp[aS,c]];exact PG) X (i.range (ry A u c).host)) k
end
theorem No(p:qh)(u:Url)(sv hv tv A:Z)(w:H)(hp:b6w w sv hv tv p)(h:zK u)(hs:Sl w.heap.size w A (u.path.map S))(hl:(dA u false).length<=1000000000)(hE:Env w)(hN:NE w) :
  bF prog 50 #[.agg (aY sv hv tv p.most),.agg (ai A u)] w (.bool (uP p u)):=by
 have H8:=F h.six;obtain⟨R,k⟩:=V (uP p u);rw[<-k];unfold uP Sw at k;have s:=λW (U:r7 w W)=>LM u A W h ((hs.below U).more U.size) hl (hE.below U) (hN.below U);have t:=λW (U:r7 w W)=>LZ p u.host sv hv tv W (hp.below U) h.ok.h h.sm.name (hN.below U);have j:=λW (U:r7 w W)=>Dm p u.aJ sv hv tv W (hp.below U);have J:=F<|λ(x:O) W (U:r7 w W)=>L5 p x sv hv tv W (hp.below U);obtain⟨f,d⟩:=V (E u.aJ);have B:=F (show(ai A u)[0]?= some (.string f) by rw[d];exact(ry A u h.six).aJ);rw[<-d]at j;obtain⟨r1,M,r2,N,r3,i⟩:=ax (decide (u.aJ∈p.schemes)) (mC p u.host) (decide (u.aJ=qI));have L:(f.toList == [100,97,116,97])=r3:=by rw[d,aB,jB,i];rfl
 have c:(f.toList=[100,97,116,97]) ↔ r3=true:=by rw[d,aB,i,gx];exact Iff.rfl
 rw[<-M]at j k;rw[<-N]at t k;rw[show decide (u.aJ≠qI)=!r3 by rw[i];simp]at k;obtain⟨E',K⟩:=V (BY u);rw[<-K]at s k;obtain⟨rN,WY,rG,D⟩:=dT s t j k;clear s t j d M N i K k hp h hs hl hE hN;obtain⟨W,hw,hsz,c1,c2,G⟩:=qd w 24 34 (aY sv hv tv p.most) (ai A u);obtain⟨q,r,z,HW⟩:=dT c1 c2 G hw;clear c1 c2 G hw hsz;cases r1 with
 |false =>
  have g:=F (show R=false by rw[D.o];rfl);clear L c;go_enter func50,ntmps50
  go_upto_region 1 with fail
  rw[HW.o]
  go_wp2_with(first|((with_reducible apply bS);first|refine fj r5 2 rfl w.heap.size sv hv tv p.most rfl q.o ?_|refine kA rfl 8 rfl (w.heap.size+1) 34 (ai A u) r.o 0 (.string f) B.o rfl ?_)|(go_at_call 79;refine(rG.o _ z.o).k λw3 U=>?_;have l:=F<|dw z.o U.o;clear U))
  go_ret;exact⟨by rw[g.o];rfl,l.o⟩
 |true =>
  cases r2 with
  |false =>
   have g:=F (show R=false by rw[D.o];rfl);clear L c;go_enter func50,ntmps50
   go_upto_region 1 with fail
   rw[HW.o]
   go_wp2_with(first|(go_at_call 79;refine(rG.o _ z.o).k λw3 U=>?_;obtain⟨l,T,D2⟩:=cZ (dw z.o U.o) (q.o.keep U.o) (r.o.keep U.o);clear U q r)|(go_at_call 80;refine(WY.o _ l.o).k λw4 U=>?_;have n:=F<|dw l.o U.o;clear U)|((with_reducible apply bS);first|refine fj r5 2 rfl w.heap.size sv hv tv p.most rfl q.o ?_|refine kA rfl 8 rfl (w.heap.size+1) 34 (ai A u) r.o 0 (.string f) B.o rfl ?_|refine fj r5 2 rfl w.heap.size sv hv tv p.most rfl T.o ?_|refine XE r5 14 rfl (w.heap.size+1) A u H8.o rfl D2.o ?_))
   go_ret;exact⟨by rw[g.o];rfl,n.o⟩
  |true =>
   go_enter func50,ntmps50
   go_upto_region 1 with fail
   rw[HW.o]
   go_upto_region 3 with(first|(go_at_call 79;refine(rG.o _ z.o).k λw3 U=>?_;obtain⟨l,T,D2⟩:=cZ (dw z.o U.o) (q.o.keep U.o) (r.o.keep U.o);clear U q r)|(go_at_call 80;refine(WY.o _ l.o).k λw4 U=>?_;obtain⟨n,E1,C⟩:=cZ (dw l.o U.o) (T.o.keep U.o) (D2.o.keep U.o);clear U)|((with_reducible apply bS);first|refine fj r5 2 rfl w.heap.size sv hv tv p.most rfl q.o ?_|refine kA rfl 8 rfl (w.heap.size+1) 34 (ai A u) r.o 0 (.string f) B.o rfl ?_|refine fj r5 2 rfl w.heap.size sv hv tv p.most rfl T.o ?_|refine XE r5 14 rfl (w.heap.size+1) A u H8.o rfl D2.o ?_))
   cases r3 with
   |false =>
    have hn:¬f.toList=[100,97,116,97]:=λe=>by have:=c.mp e;cases this
    have g:=F (show R=true by rw[D.o];rfl);clear c
    go_wp2_with((with_reducible apply bS);refine kA rfl 19 rfl (w.heap.size+1) 34 (ai A u) C.o 0 (.string f) B.o rfl ?_)
    go_ret;exact⟨by rw[g.o];rfl,n.o⟩
   |true =>
    have hn:f.toList=[100,97,116,97]:=c.mpr rfl;clear c;cases E' with
    |none =>
     have g:=F (show R=false by rw[D.o];rfl)
     go_wp2_with(first|((with_reducible apply bS);first|refine kA rfl 19 rfl (w.heap.size+1) 34 (ai A u) C.o 0 (.string f) B.o rfl ?_|refine cR r5 3 rfl (w.heap.size+1) A u H8.o rfl C.o ?_)|(go_at_call 81;refine(rN.o _ n.o).k λw5 U=>?_;have P:=F<|dw n.o U.o;clear U;dsimp only[z7]))
     go_ret;exact⟨by rw[g.o];rfl,P.o⟩
    |some x =>
     obtain⟨r4,v⟩:=V (decide (x∈p.types));have g:=F (show R=r4 by rw[D.o,v];simp);obtain⟨xb,y⟩:=V (E x);have a7l:=fo (∀W,r7 w W->bF prog 81 #[.agg (ai A u)] W (.tuple #[.string xb,.bool true])) (by rw[y];exact rN.o);have a78:=fo (∀W,r7 w W->bF prog 82 #[.agg (aY sv hv tv p.most),.string xb] W (.bool r4)) (by rw[y,v];exact J.o x);clear v y rN J
     go_wp2_with(first|((with_reducible apply bS);first|refine kA rfl 19 rfl (w.heap.size+1) 34 (ai A u) C.o 0 (.string f) B.o rfl ?_|refine cR r5 3 rfl (w.heap.size+1) A u H8.o rfl C.o ?_|refine fj r5 2 rfl w.heap.size sv hv tv p.most rfl F1.o ?_)|(go_at_call 81;refine(a7l.o _ n.o).k λw5 U=>?_;have P:=F<|dw n.o U.o;have F1:=F<|E1.o.keep U.o;clear U)|(go_at_call 82;refine(a78.o _ P.o).k λw6 U=>?_;have B6:=F<|dw P.o U.o;clear U))
     go_ret;exact⟨by rw[g.o];rfl,B6.o⟩

theorem L3{l:List O}{x:O}{k:Nat}(c:k<l.length):decide (x∈l.drop k)=(decide (l[k]=x)||decide (x∈l.drop (k+1))):=by
 rw[aC c,bX,kj,gx,gx,gx,aK];exact⟨λh=>h.elim (λe=>.inl e.symm) .inr,λh=>h.elim (λe=>.inl e.symm) .inr⟩
theorem a21{h:gF}{l:List O}{k:Nat}(c:k<l.length):(l.drop k).any (mD h)=(mD h l[k]||(l.drop (k+1)).any (mD h)):=by
 rw[aC c,c10]
theorem P2{h:gF}(c:h.kind=2):lJ h=h.name:=by
 unfold lJ;rw[ge (by rw[c];simp)]
inductive c2K (h:gF) (a:O) (xb tb:ByteArray):Prop
 |star (e:(xb.toList == [42])=true) (r:mD h a=true)
 |name (e:(xb.toList == [42])=false) (e2:(xb.toList==tb.toList)=true) (r:mD h a=true)
 |kind (e:(xb.toList == [42])=false) (e2:(xb.toList==tb.toList)=false) (hk:¬h.kind=2) (r:mD h a=false)
 |size (e:(xb.toList == [42])=false) (e2:(xb.toList==tb.toList)=false) (hk:h.kind=2) (hs:¬xb.size<tb.size) (r:mD h a=false)
 |none (e:(xb.toList == [42])=false) (e2:(xb.toList==tb.toList)=false) (hk:h.kind=2) (hs:xb.size<tb.size) (e3:xb.toList=[]) (r:mD h a=false)
 |byte (e:(xb.toList == [42])=false) (e2:(xb.toList==tb.toList)=false) (hk:h.kind=2) (hs:xb.size<tb.size) (e3:¬xb.toList=[]) (hz:0<xb.size) (c:Int) (X:((xb[0]'hz).toNat:Int)=c) (hc:¬c=46) (r:mD h a=false)
 |tail (e:(xb.toList == [42])=false) (e2:(xb.toList==tb.toList)=false) (hk:h.kind=2) (hs:xb.size<tb.size) (e3:¬xb.toList=[]) (hz:0<xb.size) (X:((xb[0]'hz).toNat:Int)=46) (D:Nat) (hD:D+xb.size=tb.size) (q:Bool) (hq:((tb.extract D tb.size).toList==xb.toList)=q) (r:mD h a=q)
theorem b80(h:gF)(a:O):c2K h a (E a) (E (lJ h)):=by
 have hh:mD h a=(decide (a=lJ h)||decide (a=[42])||b4z h a):=rfl;have i:((E a).toList == [42])=decide (a=[42]):=by rw[aB,jB]
 have k:((E a).toList==(E (lJ h)).toList)=decide (a=lJ h):=by rw[aB,aB,jB]
 by_cases Y:a=[42]
 ·exact .star (by rw[i,gr Y]) (by rw[hh,gr Y];simp)
 by_cases I:a=lJ h
 ·exact .name (by rw[i,gh Y]) (by rw[k,gr I]) (by rw[hh,gr I];simp)
 rw[gh Y]at i;rw[gh I]at k;have hd:mD h a=b4z h a:=by rw[hh,gh Y,gh I];rfl
 by_cases j:h.kind=2
 ·have s:=P2 j
  have l:=c2U h a;rw[<-s]at l;by_cases m:(E a).size<(E (lJ h)).size
  ·cases l with
   |none e r=>exact .none i k j m e (hd.trans r)
   |byte e g c X l r=>exact .byte i k j m e g c X l (hd.trans r)
   |kind e g X d r=>exact absurd j d
   |size e g X d f r=>exact absurd m f
   |tail e g X d f D n q p r=>exact .tail i k j m e g X D n q p (hd.trans r)
  refine .size i k j m (hd.trans ?_);cases l with
  |none e r=>exact r
  |byte e g c X l r=>exact r
  |kind e g X d r=>exact r
  |size e g X d f r=>exact r
  |tail e g X d f D n q p r=>exact absurd f m
 refine .kind i k j (hd.trans ?_);unfold b4z;rw[gh j];simp
theorem RB(p:qh)(u:Url)(sv hv tv A:Z)(w:H)(hp:b6w w sv hv tv p)(h:zK u)(hs:Sl w.heap.size w A (u.path.map S))(hl:(dA u false).length<=1000000000) :
  bF prog 14 #[.agg (aY sv hv tv p.most),.agg (ai A u)] w (.bool (uP p u)):=by
 have H8:=F h.six;obtain⟨W0,hw,hsz,c1,c2,G⟩:=qd w 24 34 (aY sv hv tv p.most) (ai A u);have hda:=λW (U:r7 W0 W)=>b6l u A W h ((hs.below (dw G U)).more (dw G U).size) hl;have hho:=λW=>b7i u.host (aT u.host) W (ZZ h.ok.h) h.sm.name;obtain⟨R,hR⟩:=V (uP p u);rw[<-hR];unfold uP Sw at hR;obtain⟨sb,hsb,v,hkd⟩:=ac (E u.aJ) (u.host.kind);have ka:=F (show(ai A u)[0]?= some (.string sb) by rw[hsb];exact(ry A u h.six).aJ);have HC3:=F (show(ai A u)[3]?= some (.int .i64 v) by rw[hkd];exact(ry A u h.six).host 0 _ rfl);obtain⟨tb,htb⟩:=V (E (lJ u.host));have htl:tb.size<=102400100:=by rw[htb,aF];exact am (oQ u.host h.ok.h 102400000 h.sm.name) P8
 obtain⟨r1,hr1,z0,hz0,r2,hr2⟩:=ax (decide (u.aJ∈p.schemes)) (decide (v=0\/v=1)) (mC p u.host);have c1m:r2=(z0||p.hosts.any (mD u.host)):=by rw[hr2,hz0,hkd];rfl
 obtain⟨r3,hr3⟩:=V (decide (u.aJ=qI));have L:(sb.toList == [100,97,116,97])=r3:=by rw[hsb,aB,jB,hr3];rfl
 have hq3:(sb.toList != [100,97,116,97])=!r3:=by unfold bne;rw[L]
 have HQ3:=F hq3;have HQ1:=F L;rw[<-hr1,<-hr2,show decide (u.aJ≠qI)=!r3 by rw[hr3];simp]at hR;obtain⟨E',hEE⟩:=V (BY u);rw[<-hEE]at hda hR;obtain⟨rN,WY,HR,HR1,HR2,HZ0,HSB,Hy⟩:=er hda (show ∀W,bF prog 36 #[.agg (aT u.host)] W (.string tb)from by rw[htb];exact hho) hR hr1 c1m hz0 hsb htb;have uA:=F hkd;obtain⟨N1,hN1,N2,EQ,N3,hN3⟩:=ax (p.schemes.length) (p.hosts.length) (p.types.length);have hn:=hp.n;have hn1:N1<=1000:=M0;have hn2:N2<=1000:=M0;have CO:N3<=1000:=M0;obtain⟨J6,mh,HN3⟩:=cZ hN1 EQ hN3;obtain⟨asv,cs,e1⟩:=cQ hp.s;obtain⟨ah,ch,e2⟩:=cQ hp.h;obtain⟨at_,ct,e3⟩:=cQ hp.t;rw[ay,<-hN1]at e1;rw[ay,<-EQ]at e2;rw[ay,<-hN3]at e3;subst e1 e2 e3;obtain⟨HSV,HHV,HTV,Xa,C1,C2,B2,HW⟩:=er (λW (U:r7 W0 W)=>hp.s.below (dw G U)) (λW (U:r7 W0 W)=>hp.h.below (dw G U)) (λW (U:r7 W0 W)=>hp.t.below (dw G U)) hp.x c1 c2 G hw
 have HF:=F<|λW (U:r7 W0 W)=>(show W.cell? ⟨w.heap.size,0,none⟩=some (.slice asv N1 cs)/\W.cell? ⟨w.heap.size,1,none⟩=some (.slice ah N2 ch)/\W.cell? ⟨w.heap.size,2,none⟩=some (.slice at_ N3 ct)/\W.cell? ⟨w.heap.size+1,0,none⟩=some (.string sb)/\W.cell? ⟨w.heap.size+1,3,none⟩=some (.int .i64 v)from
  ⟨(c1.keep U).aE rfl,(c1.keep U).aE rfl,(c1.keep U).aE rfl,(c2.keep U).aE ka.o,(c2.keep U).aE HC3.o⟩)
 clear hda hho hR hsb hkd htb hr1 hz0 hr2 c1m hr3 L hq3 hEE hN1 EQ hN3 hn c1 c2 G hw hsz hp h hs hl;go_enter func14,ntmps14
 go_upto_region 1 with fail
 rw[HW.o]
 go_upto_region 3 with fail
 go_loopw [5,6] (λqv iv wr=>∃(k:Nat) (q:Bool),k<=N1/\iv=.int .i64 k/\qv=.bool q/\Hid (r1=(q||decide (u.aJ∈p.schemes.drop k)))/\Hid (r7 W0 wr)) (λ_ iv _=>N1-(intOf iv).toNat)
 exact⟨0,false,M0,Oc,rfl,HR1,F (gT _ _)⟩
 obtain⟨k,q,hk,rfl,rfl,hd,J⟩:=hrel;by_cases hlt:k<N1
 ·obtain⟨f1,_,_,f4,_⟩:=HF.o _ J.o
  have f:k<p.schemes.length:=by have:=J6.o;omega
  obtain⟨b,o,rfl,P,l⟩:=gO (HSV.o _ J.o) k f;have i:=L3 (x:=u.aJ) f;generalize p.schemes[k]=y at l i;obtain⟨N,j⟩:=V (E y);rw[show S y=.string N by rw[j]]at l;have e1:(N.toList==sb.toList)=decide (y=u.aJ):=by rw[j,HSB.o,aB,aB,jB]
  clear j P f;generalize decide (y=u.aJ)=r at e1 i;cases q with
  |true =>
   have g:=F (show r1=(true||decide (u.aJ∈p.schemes.drop (k+1))) by rw[hd.o];rfl);clear hd i l e1 f4;go_wp2_with fail
   go_quiet (fail)
   go_wp2_with fail;go_roundw
   exact⟨k+1,true,M0,by go_num,rfl,g,F (by first|exact bG J.o|exact nO J.o|exact J.o)⟩
   exact aa
  |false =>
   have g:=F (show r1=(r||decide (u.aJ∈p.schemes.drop (k+1))) by rw[hd.o,i];rfl);clear hd i;go_wp2_with fail
   go_quiet (fail)
   go_wp2_with fail;go_roundw
   exact⟨k+1,r,M0,by go_num,by rw[<-e1],g,F (by first|exact bG J.o|exact nO J.o|exact J.o)⟩
   exact aa
 obtain rfl:k=N1:=M0;have HQ:=F (show r1=q by rw[hd.o,dG (by have:=J6.o;omega)];simp);obtain⟨f1,_,_,_,f5⟩:=HF.o _ J.o
 have HZ:=F (show(v=0/\z0=true)\/(¬v=0/\v=1/\z0=true)\/(¬v=0/\¬v=1/\z0=false) by
  rw[HZ0.o];by_cases C:v=0
  ·exact .inl ⟨C,gr (.inl C)⟩
  by_cases Y:v=1
  ·exact .inr (.inl ⟨C,Y,gr (.inr Y)⟩)
  exact .inr (.inr ⟨C,Y,gh (λh=>h.elim C Y)⟩))
 clear hd HR1
 go_upto_region 6 with fail
 generalize wr=w4 at J f1 f5⊢
 go_cut [7]from 34 to 43 (λzv wx=>zv=.bool z0/\wx=w4)
 case first =>
  rcases HZ.o with⟨C,z⟩|⟨C,Y,z⟩|⟨C,Y,z⟩
  ·have q0:(v==0)=true:=by simpa using C
   have Z':=F z;clear z C;go_wp2_with fail
   go_meet
   exact⟨by rw[Z'.o],rfl⟩
  ·have q0:(v==0)=false:=by simpa using C
   have q1:(v==1)=true:=by simpa using Y
   have Z':=F z;clear z C Y;go_wp2_with fail
   go_meet
   exact⟨by rw[Z'.o],rfl⟩
  have q0:(v==0)=false:=by simpa using C
  have q1:(v==1)=false:=by simpa using Y
  have Z':=F z;clear z C Y;go_wp2_with fail
  go_meet
  exact⟨by rw[Z'.o],rfl⟩
 case rest =>
  obtain⟨rfl,rfl⟩:=hcut;clear f1 f5 HZ;have D2:=F<|C2.o.keep J.o
  go_upto_region 9 with(first|((with_reducible apply bS);refine XE r5 44 rfl (w.heap.size+1) A u H8.o rfl D2.o ?_)|(go_at_call 36;refine(WY.o _).k λw5 U=>?_;have B5:=F<|dw J.o U.o;clear U))
  clear J D2 WY;obtain⟨_,g2,g3,g4,g5⟩:=HF.o _ B5.o
  go_loopw [7,9,10,11] (λzv iv _ _ wr=>∃(k:Nat) (z:Bool),k<=N2/\iv=.int .i64 k/\zv=.bool z/\Hid (r2=(z||(p.hosts.drop k).any (mD u.host)))/\w5=wr) (λ_ iv _ _ _=>N2-(intOf iv).toNat)
  exact⟨0,z0,M0,Oc,rfl,HR2,rfl⟩
  obtain⟨k,z,hk,rfl,rfl,hd,rfl⟩:=hrel;by_cases hlt:k<N2
  ·have f:k<p.hosts.length:=by have:=mh.o;omega
   have X:=Xa.o _ (be f);obtain⟨b,o,rfl,P,l⟩:=gO (HHV.o _ B5.o) k f;have had:=a21 (h:=u.host) f;have B:=b80 u.host p.hosts[k];generalize p.hosts[k]=y at l had B X;rw[<-Hy.o]at B;have hys:(E y).size=y.length:=aF y;obtain⟨N,j⟩:=V (E y);rw[<-j]at B hys;rw[show S y=.string N by rw[j]]at l;obtain⟨M,hM,X',hX⟩:=ac (tb.size) (N.size);have hMs:tb.size=M:=hM.symm;have hXs:N.size=X':=hX.symm;have Z1:M<=102400100:=M0;have hXl:X'<=1000000:=M0;obtain⟨D,hD⟩:=V ((M:Int)-X':Int);have hwD:IntKind.i64.wrap ((M:Int)-X')=D:=by rw[hD];exact gS _ M0
   obtain⟨HD,mW,HAD⟩:=cZ hD B had;clear j P f hM hX hD B had X hys Z1 hXl
   go_upto_region 13 with fail
   clear hwD l;cases z with
   |true =>
    have g:=F (show r2=(true||(p.hosts.drop (k+1)).any (mD u.host)) by rw[hd.o];rfl);clear hd HAD mW;go_wp2_with fail;go_roundw
    exact⟨k+1,true,M0,by go_num,rfl,g,by trivial⟩
    exact aa
   |false =>
    have g:=F (λ(q:Bool) (e:mD u.host y=q)=>show r2=(q||(p.hosts.drop (k+1)).any (mD u.host)) by rw[hd.o,HAD.o,e];rfl);have B:=mW.o;clear hd HAD mW;cases B with
    |star e r =>
     have K:=F<|g.o _ r;clear g r;go_wp2_with fail;go_roundw
     exact⟨k+1,true,M0,by go_num,rfl,K,by trivial⟩
     exact aa
    |name e e2 r =>
     have K:=F<|g.o _ r;clear g r;go_wp2_with fail;go_roundw
     exact⟨k+1,true,M0,by go_num,rfl,K,by trivial⟩
     exact aa
    |kind e e2 d r =>
     have K:=F<|g.o _ r;rw[<-uA.o]at d;have q2:(v==2)=false:=by simpa using d
     clear g r d;go_wp2_with fail;go_roundw
     exact⟨k+1,false,M0,by go_num,rfl,K,by trivial⟩
     exact aa
    |size e e2 d hs r =>
     have K:=F<|g.o _ r;rw[<-uA.o]at d;have q2:(v==2)=true:=by rw[d];rfl
     have hD0:¬(0:Int)<D:=by have:=HD.o;omega
     clear g r d hs;go_wp2_with fail;go_roundw
     exact⟨k+1,false,M0,by go_num,rfl,K,by trivial⟩
     exact aa
    |none e e2 d hs e3 r =>
     have K:=F<|g.o _ r;rw[<-uA.o]at d;have q2:(v==2)=true:=by rw[d];rfl
     have hD0:(0:Int)<D:=by have:=HD.o;omega
     have e4:N.toList.isEmpty=true:=by rw[e3];rfl
     have e5:(([]:List UInt8)==tb.toList)=false:=by rw[<-e3];exact e2
     have e6:¬tb.toList=[]:=λh=>by rw[h]at e5;cases e5
     have e7:¬ []=tb.toList:=λh=>e6 h.symm;have e8:tb.toList.isEmpty=false:=by simpa using e6
     clear g r d hs;go_wp2_with fail;go_roundw
     exact⟨k+1,false,M0,by go_num,rfl,K,by trivial⟩
     exact aa
    |byte e e2 d hs e3 hz c X hc r =>
     have K:=F<|g.o _ r;rw[<-uA.o]at d;have q2:(v==2)=true:=by rw[d];rfl
     have hD0:(0:Int)<D:=by have:=HD.o;omega
     have e4:N.toList.isEmpty=false:=by simpa using e3
     have hc2:(c==46)=false:=by simpa using hc
     clear g r d hs;go_wp2_with fail;go_roundw
     exact⟨k+1,false,M0,by go_num,rfl,K,by trivial⟩
     exact aa
    |tail e e2 d hs e3 hz X E2 hE2 q hq r =>
     have K:=F<|g.o _ r;rw[<-uA.o]at d;have q2:(v==2)=true:=by rw[d];rfl
     obtain rfl:D=(E2:Int):=by have:=HD.o;omega
     have hD0:(0:Int)<E2:=M0;have hEM:E2<=M:=M0;have c7e:(E2:Int)<=M:=M0;have e4:N.toList.isEmpty=false:=by simpa using e3
     rw[hMs]at hq;obtain⟨tl,b8U⟩:=V (tb.extract E2 M);have c8v:tb.extract E2 M=tl:=b8U.symm;rw[<-b8U]at hq;clear g r d hs hE2 b8U HD;go_wp2_with fail;go_roundw
     exact⟨k+1,q,M0,by go_num,by rw[<-hq],K,by trivial⟩
     exact aa
  obtain rfl:k=N2:=M0;have HZQ:=F (show r2=z by rw[hd.o,dG (by have:=mh.o;omega)];simp);clear hd HR2 HHV Xa
  go_upto_region 14 with fail
  cases r3 with
  |false =>
   have hq3:=HQ3.o;have L:=HQ1.o;have HN:=F (show R=(q&&z) by rw[HR.o,HQ.o,HZQ.o];simp);clear HR HQ HZQ rN HTV;cases q with
   |false =>
    go_wp2_with fail;go_ret;exact⟨by rw[HN.o];rfl,dw B2.o B5.o⟩
   |true =>
    go_wp2_with fail;go_ret;exact⟨by rw[HN.o];rfl,dw B2.o B5.o⟩
  |true =>
   have hq3:=HQ3.o;have L:=HQ1.o;obtain⟨x,nB,ok,hok⟩:=ac (E'.getD []) (E'.isSome);obtain⟨T,hT,xb,hxb⟩:=ac (decide (x∈p.types)) (E x)
   have HN:=F (show R=(q&&z&&(ok&&T)) by
    rw[HR.o,HQ.o,HZQ.o,hok,hT,nB];cases E' <;>simp)
   have a7l:=F<|λW (U:r7 W0 W)=>(show bF prog 37 #[.agg (ai A u)] W (.tuple #[.string xb,.bool ok])from by
    have h:=rN.o W U;have e:z7 E'=.returned (.tuple #[.string xb,.bool ok]):=by rw[hxb,nB,hok];cases E' <;>rfl
    rw[e]at h;exact h)
   obtain⟨HT,HXB,D2⟩:=cZ hT hxb (C2.o.keep B5.o);clear HR HQ HZQ rN nB hok hT hxb
   go_upto_region 19 with(first|((with_reducible apply bS);refine cR r5 3 rfl (w.heap.size+1) A u H8.o rfl D2.o ?_)|(go_at_call 37;refine(a7l.o _ B5.o).k λw6 U=>?_;have B6:=F<|dw B5.o U.o;clear U))
   clear g2 g3 g4 g5 hq3 L a7l D2 B5;obtain⟨_,_,g3,_,_⟩:=HF.o _ B6.o
   go_loopw [14,15] (λbv iv wr=>∃(k:Nat) (b:Bool),k<=N3/\iv=.int .i64 k/\bv=.bool b/\Hid (T=(b||decide (x∈p.types.drop k)))/\w6=wr) (λ_ iv _=>N3-(intOf iv).toNat)
   exact⟨0,false,M0,Oc,rfl,HT,rfl⟩
   obtain⟨k3,b3,hk3,rfl,rfl,hd,rfl⟩:=hrel;by_cases hlt3:k3<N3
   ·have f:k3<p.types.length:=by have:=HN3.o;omega
    obtain⟨b,o,rfl,P,l⟩:=gO (HTV.o _ B6.o) k3 f;have i:=L3 (x:=x) f;generalize p.types[k3]=y at l i;obtain⟨N,j⟩:=V (E y);rw[show S y=.string N by rw[j]]at l;have e1:(N.toList==xb.toList)=decide (y=x):=by rw[j,HXB.o,aB,aB,jB]
    clear j P f;generalize decide (y=x)=r at e1 i;cases b3 with
    |true =>
     have g:=F (show T=(true||decide (x∈p.types.drop (k3+1))) by rw[hd.o];rfl);clear hd i;go_wp2_with fail;go_roundw
     exact⟨k3+1,true,M0,by go_num,rfl,g,by trivial⟩
     exact aa
    |false =>
     have g:=F (show T=(r||decide (x∈p.types.drop (k3+1))) by rw[hd.o,i];rfl);clear hd i;go_wp2_with fail;go_roundw
     exact⟨k3+1,r,M0,by go_num,by rw[<-e1],g,by trivial⟩
     exact aa
   obtain rfl:k3=N3:=M0;have c3H:=F (show T=b3 by rw[hd.o,dG (by have:=HN3.o;omega)];simp);clear hd HT;cases q <;>cases z <;>cases ok
   all_goals
    go_wp2_with fail;go_ret;exact⟨by rw[HN.o,c3H.o];rfl,dw B2.o B6.o⟩

theorem Qq{w:H}{b:Nat}{A wv:Z}{i:eu}(c:CB w b 48 (bC A wv i)):w.rangeAt b 1 (cu A i.url) :=
 Aq (o:=0) (c.range (o:=0) (vs:=bN A wv i) (λj v h=>by simpa using h))
theorem Lz(p:qh)(kind:Int)(i:eu)(sv hv tv A wv:Z)(x C:Nat)(w:H)(hp:b6w w sv hv tv p)(cp:CB w x 24 (aY sv hv tv p.most))(ck:CB w C 3 #[.int .i64 kind])(h:zK i.url)(P:Sl w.heap.size w A (i.url.path.map S))(hl:(dA i.url false).length<=1000000000)(hE:Env w)(N:NE w) :
  bF prog 49 #[.agg (bC A wv i),.pointer (some ⟨x,0,none⟩),.pointer (some ⟨C,0,none⟩)] w (.bool (jO p kind i)):=by
 have z:=F h.six;obtain⟨R,y⟩:=V (jO p kind i);rw[<-y];unfold jO at y;have l:=λW (U:r7 w W)=>No p i.url sv hv tv A W (hp.below U) h ((P.below U).more U.size) hl (hE.below U) (N.below U);have n:=λW (U:r7 w W)=>Pk i.url (ai A i.url) A W (lV A h.ok) ((P.below U).more U.size) h.sm (N.below U);obtain⟨r1,q⟩:=V (i.right);have J:=F (show(bC A wv i)[0]?= some (.bool r1) by rw[q];rfl);obtain⟨r2,r,r3,s⟩:=ac (uP p i.url) (ti (dA i.url true));rw[<-q,<-r,<-s]at y;rw[<-r]at l;rw[<-s]at n;obtain⟨T,K,B,CP,CK⟩:=ec l n y cp ck;clear l n q r s y hp cp ck h P hl hE N;have d:=F<|CB.new w 48 (bC A wv i);have c:=F<|(gT w.heap.size w).alloc (ag _) (.cells (bC A wv i) 48);obtain⟨w1,k⟩:=ey (w.alloc (.cells (bC A wv i) 48));rw[<-k.o]at d c;have g:=F<|CP.o.keep c.o;have v:=F<|CK.o.keep c.o;clear CP CK;cases r1 with
 |false =>
  have j:=F (show R=false by rw[B.o];rfl);go_enter func49,ntmps49
  go_upto_region 1 with fail
  rw[<-k.o]
  go_wp2_with((with_reducible apply bS);refine vA rfl 5 rfl w.heap.size 48 (bC A wv i) d.o 0 (.bool false) J.o rfl ?_)
  go_ret;exact⟨by rw[j.o];rfl,c.o⟩
 |true =>
  have L:=F<|Qq d.o;cases r2 with
  |false =>
   have j:=F (show R=false by rw[B.o];rfl);go_enter func49,ntmps49
   go_upto_region 1 with fail
   rw[<-k.o]
   go_wp2_with(first|((with_reducible apply bS);first|refine vA rfl 5 rfl w.heap.size 48 (bC A wv i) d.o 0 (.bool true) J.o rfl ?_|refine fj r5 1 rfl x sv hv tv p.most rfl g.o ?_|refine Ac r5 9 rfl w.heap.size 1 A i.url z.o rfl L.o ?_)|(go_at_call 50;refine(T.o _ c.o).k λw2 U=>?_;have u:=F<|dw c.o U.o;clear U))
   go_ret;exact⟨by rw[j.o];rfl,u.o⟩
  |true =>
   go_enter func49,ntmps49
   go_upto_region 1 with fail
   rw[<-k.o];by_cases D:kind=2
   ·have j:=F (show R=r3 by rw[B.o,D];rfl)
    subst D
    go_wp2_with(first|((with_reducible apply bS);first|refine vA rfl 5 rfl w.heap.size 48 (bC A wv i) d.o 0 (.bool true) J.o rfl ?_|refine fj r5 1 rfl x sv hv tv p.most rfl g.o ?_|refine Ac r5 9 rfl w.heap.size 1 A i.url z.o rfl L.o ?_|refine tY r5 2 rfl C 0 3 #[.int .i64 2] f.o (.int .i64 2) rfl rfl ?_|refine Ac r5 17 rfl w.heap.size 1 A i.url z.o rfl M.o ?_)|(go_at_call 50;refine(T.o _ c.o).k λw2 U=>?_;obtain⟨u,f,M⟩:=cZ (dw c.o U.o) (v.o.keep U.o) (Qq (d.o.keep U.o));clear U)|(go_at_call 51;refine(K.o _ u.o).k λw3 U=>?_;have B3:=F<|dw u.o U.o;clear U))
    go_ret;exact⟨by rw[j.o];rfl,B3.o⟩
   have j:=F (show R=true by rw[B.o,gr D];rfl);have qk:(kind==2)=false:=by simpa using D
   go_wp2_with(first|((with_reducible apply bS);first|refine vA rfl 5 rfl w.heap.size 48 (bC A wv i) d.o 0 (.bool true) J.o rfl ?_|refine fj r5 1 rfl x sv hv tv p.most rfl g.o ?_|refine Ac r5 9 rfl w.heap.size 1 A i.url z.o rfl L.o ?_|refine tY r5 2 rfl C 0 3 #[.int .i64 kind] f.o (.int .i64 kind) rfl rfl ?_)|(go_at_call 50;refine(T.o _ c.o).k λw2 U=>?_;have u:=F<|dw c.o U.o;have f:=F<|v.o.keep U.o;clear U))
   go_ret;exact⟨by rw[j.o];rfl,u.o⟩

theorem Vq{A wv:Z}{i:eu}(c:i.url.host.six.length=8):(bC A wv i)[19]?= some A:=by
 rw[cf];exact a0k (j:=18) (by have:=(ry A i.url c).path;rw[cf]at this;exact this)
theorem Qt{A wv:Z}{i:eu}(c:i.url.host.six.length=8):(bC A wv i)[24]?= some wv:=by
 rw[cf];exact a0l c
theorem Qr(A wv v:Z)(i:eu)(h:i.url.host.six.length=8):(bC A wv i).setIfInBounds 19 v=bC v wv i:=by
 obtain⟨rt,⟨aJ,usr,ib,⟨hk,hn,hf,six⟩,a1,a2,a3,a4,a5,a6,a7,a8,a9⟩,w0⟩:=i;simp only at h;obtain⟨a,b,c,d,e,f,g,i,rfl⟩:=eight h;rfl
theorem Qs(A wv v:Z)(i:eu)(c:i.url.host.six.length=8):(bC A wv i).setIfInBounds 24 v=bC A v i:=CX A wv v i c i.words
theorem KX(p:eu->Bool){l:List eu}{k:Nat}(c:k<l.length):(l.take (k+1)).filter p=(l.take k).filter p++(if p l[k]=true then [l[k]]else []):=by
 rw[aH c,fy]
 congr 1
 split
 ·next h=>exact aU h
 next h=>exact aZ h
structure ILk (l:List eu):Prop where
 u:∀i∈l,zK i.url/\(dA i.url false).length<=1000000000/\i.words.length<=1024000000
 n:l.length<=900000000
theorem b7Y(p:qh)(kind:Int)(l:List eu)(v sv hv tv:Z)(bp bk:Nat)(w:H)(hI:Items w.heap.size w v l)(K:ILk l)(hp:b6w w sv hv tv p)(cp:CB w bp 24 (aY sv hv tv p.most))(ck:CB w bk 3 #[.int .i64 kind])(hE:Env w)(hN:NE w) :
  Calls prog 48 #[v,.func (Fn.func 49) #[] #[.pointer (some ⟨bp,0,none⟩),.pointer (some ⟨bk,0,none⟩)]] w λe w'=>∃v',e=.returned v'/\fa w' w.heap.size v' (l.filter (jO p kind))/\r7 w w':=by
 have HK:=F<|λ(i:eu) (hi:i∈l) (A wv:Z) W (U:r7 w W) (hs:Sl w.heap.size w A (i.url.path.map S))=>Lz p kind i sv hv tv A wv bp bk W (hp.below U) (cp.keep U) (ck.keep U) (K.u i hi).1 ((hs.below U).more U.size) (K.u i hi).2.1 (hE.below U) (hN.below U);have D:=F<|λ(i:eu) (hi:i∈l)=>(show i.url.host.six.length=8/\i.url.path.length<=1024000000/\i.words.length<=1024000000 from⟨(K.u i hi).1.six,by have:=(K.u i hi).1.E.1;omega,(K.u i hi).2.2⟩);obtain⟨f,hf⟩:=V (jO p kind);have HKF:=fo (∀i∈l,∀(A wv:Z) W,r7 w W->Sl w.heap.size w A (i.url.path.map S)->bF prog 49 #[.agg (bC A wv i),.pointer (some ⟨bp,0,none⟩),.pointer (some ⟨bk,0,none⟩)] W (.bool (f i))) (by rw[hf];exact HK.o);rw[<-hf];obtain⟨N,XF⟩:=V (l.length);have HN:=F XF;have hNb:N<=900000000:=by rw[XF];exact K.n
 obtain⟨av,cc,rfl⟩:=lM hI;rw[<-XF]at hI⊢;have HI:=F hI;obtain⟨w0,hw0⟩:=V (w);have HW0:=F hw0;clear HK hf XF hI K hp cp ck hE hN hw0;go_enter func48,ntmps48
 go_upto_region 3 with fail
 go_loopw [5,7,10] (λv2 _ iv wr=>∃k:Nat,k<=N/\iv=.int .i64 k/\Hid (r7 w wr)/\Hid (fa wr w.heap.size v2 ((l.take k).filter f))) (λ_ _ i _=>N-(intOf i).toNat)
 exact⟨0,aL _,rfl,F (gT _ _),F (fa.nil _ _)⟩
 obtain⟨k,hk,rfl,t,IR⟩:=hrel;by_cases hkN:k<N
 ·have d:k<l.length:=by have:=HN.o;omega
  obtain⟨it,hit⟩:=V (l[k]);have HM:=F (show it∈l by rw[hit];exact be d);have M:=KX f d;rw[<-hit]at M;obtain⟨b,o,rfl,hbb,A,wv,hr,y1,g,h⟩:=oh HI.o k d;rw[<-hit]at hr g h;have hlt:b<w.heap.size:=hbb;obtain⟨HR,HPV,HWV,uh,c,HPL,HWL,xO⟩:=er (show wr.rangeAt b (o+k*25) (bN A wv it)from λj x hj=>(t.o.cell (p:=⟨b,o+k*25+j,none⟩) hlt).trans (hr j x hj)) g h M ((D.o it HM.o).1) ((D.o it HM.o).2.1) ((D.o it HM.o).2.2) (rq g);have HW1:=F<|rq h;clear y1 hr g h M hit hbb hlt d
  go_upto_region 5 with((with_reducible apply bS);first|refine lm r5 48 12 rfl b (o+k*25) rfl (bN A wv it) _ HR.o underlying48 rfl (by rw[lL c.o];exact mG) ?_|(refine aM rfl 48 rfl _ _ (Ia _) ?_;refine a4Z rfl 7 13 rfl A wv it c.o xO.o HW1.o rfl rfl rfl ?_;intro w4 i4;have J:=F i4;clear i4))
  have B4:=F<|t.o.trans (J.o.bL.m t.o.size);obtain⟨q,hq⟩:=V (wr.heap.size);have HQ:=F hq;rw[<-hq]at J⊢;obtain⟨r,HRR⟩:=ey (f it);have B:=fo (∀W,r7 w W->bF prog 49 #[.agg (bC A wv it),.pointer (some ⟨bp,0,none⟩),.pointer (some ⟨bk,0,none⟩)] W (.bool r)) (λW U=>by rw[HRR.o];exact HKF.o it HM.o A wv W U HPV.o);clear hq HR;cases r with
  |false =>
   have C:=F (show(l.take (k+1)).filter f=(l.take k).filter f by rw[uh.o,<-HRR.o];simp)
   go_wp2_with(first|((with_reducible apply bS);refine US rfl 7 rfl wr q A wv it c.o J.o rfl ?_)|(go_at_call 49;refine(B.o _ B4.o).k λw5 R=>?_))
   go_roundw
   exact⟨k+1,M0,by go_num,F (dw B4.o R.o),F (by rw[C.o];exact(IR.o.below J.o.bL).below (R.o))⟩
   exact aa
  |true =>
   have C:=F (show(l.take k).filter f++[it]=(l.take (k+1)).filter f by rw[uh.o,<-HRR.o];simp)
   go_upto_region 6 with(first|((with_reducible apply bS);refine US rfl 7 rfl wr q A wv it c.o J.o rfl ?_)|(go_at_call 49;refine(B.o _ B4.o).k λw5 R=>?_))
   have I5:=F<|J.o.below R.o;have y:=F<|dw B4.o R.o;have S5:=F<|I5.o.lt;clear J B
   go_upto_region 7 with(first|((with_reducible apply bS);first|refine yx rfl 18 rfl q 48 (bC A wv it) I5.o.cb 19 A (Vq c.o) rfl ?_|(refine dX rfl 22 22 20 rfl wr q 48 (bC A wv it) (I5.o.below B6.o) 19 v6 rfl rfl (by rw[mF c.o];decide) dC (bm O6.o) (bC v6 wv it) (Qr A wv v6 it c.o) ?_;intro w7 i7 t7;have I7:=F i7;have T7:=F t7;clear i7 t7))|(go_at_call 54;refine(fQ it.url.path A _ ((HPV.o.below y.o).more y.o.size) HPL.o).m ?_;rintro e w6⟨v6,rfl,oo,U⟩;have O6:=F<|eE oo;have B6:=F U;clear oo U))
   obtain⟨O7,S7,z⟩:=cZ (T7.o.row O6.o S5.o) (show w5.heap.size<=w7.heap.size from am B6.o.size T7.o.s) (show r7 w w7 from t.o.trans (I7.o.bL.m t.o.size))
   go_upto_region 8 with(first|((with_reducible apply bS);first|refine yx rfl 23 rfl q 48 (bC v6 wv it) I7.o.cb 24 wv (Qt c.o) rfl ?_|(refine dX rfl 22 26 25 rfl wr q 48 (bC v6 wv it) (I7.o.below B8.o) 24 P rfl rfl (by rw[mF c.o];decide) dC (bm O8.o) (bC v6 P it) (Qs v6 wv P it c.o) ?_;intro w9 i9 t9;have I9:=F i9;have T9:=F t9;clear i9 t9))|(go_at_call 54;refine(fQ it.words wv _ ((HWV.o.below z.o).more z.o.size) HWL.o).m ?_;rintro e w8⟨P,rfl,oo,U⟩;have O8:=F<|eE oo;have B8:=F U;clear oo U))
   have S57:=F<|I7.o.lt;obtain⟨P9,Q9,T,TR⟩:=dT (T9.o.row (own_below' O7.o B8.o) S5.o) (T9.o.row O8.o S57.o) (show r7 w w9 from t.o.trans (I9.o.bL.m t.o.size)) (IR.o.below I9.o.bL);have IP:=fo (mZ w9 w.heap.size ((v6,P),it)) ⟨c.o,il P9.o y.o.size,il Q9.o z.o.size⟩
   have TB:=F (show((l.take k).filter f).length+1<=1000000000 by
    have Y:=dO f (l.take k);rw[aD]at Y;omega)
   go_wp2_with((with_reducible apply bS);refine US rfl 7 rfl wr q v6 P it c.o I9.o rfl ?_;refine qE rfl 28 rfl v6 P it c.o rfl ?_;refine b89 rfl 27 29 rfl w.heap.size rfl TR.o IP.o rfl TB.o T.o.size ?_;intro v10 xr a4W b10;have YN:=F a4W;have B10:=F b10;clear a4W b10)
   go_roundw
   exact⟨k+1,M0,by go_num,F (T.o.trans B10.o),F (by rw[<-C.o];exact YN.o)⟩
   exact aa
 obtain rfl:k=N:=M0;have zF:=F (show l.take k=l by rw[HN.o];exact di);go_wp2_with fail;go_ret;exact⟨_,rfl,by rw[<-zF.o];exact IR.o,t.o⟩

theorem Zx(w:H)(e:Array Z)(k:Int)(v:Z)(d:O):∃W,(((w.alloc (.cells e 24)).alloc (.cells #[.int .i64 k] 3)).alloc (.cells (bD v d) 45)).alloc (.cells (bD aI []) 45)=W/\W.heap.size=w.heap.size+4 /\
  CB W w.heap.size 24 e/\CB W (w.heap.size+1) 3 #[.int .i64 k]/\CB W (w.heap.size+2) 45 (bD v d)/\OB w (w.heap.size+3) 45 (bD aI []) W:=by
 obtain⟨h,I,z2,f,a2,G⟩:=qd w 24 3 e #[.int .i64 k];obtain⟨i,g,z4,a3,a4,c⟩:=qd h 45 45 (bD v d) (bD aI []);rw[z2]at a3 a4;refine⟨i,by rw[I,g],by rw[z4,z2],f.keep c,a2.keep c,a3,OB.of a4 M0 (dw G c)⟩
theorem fa.slice{W:H}{base:Nat}{v:Z}{l:List eu}(c:fa W base v l):∃a n c,v=.slice a n c:=by
 obtain⟨a,d,e⟩:=c.len;exact⟨a,l.length,d,e⟩
theorem Z3(p:qh)(kind:Int)(l:List eu)(d:O)(v sv hv tv:Z)(w:H)(C:Items w.heap.size w v l)(K:ILk l)(hp:b6w w sv hv tv p)(B:Env w)(J:NE w) :
  Calls prog 24 #[.agg (aY sv hv tv p.most),.int .i64 kind,.agg (bD v d)] w (jz w ⟨l.filter (jO p kind),d⟩):=by
 have f:=F<|λ(t s:Nat) W (U:r7 w W) (cp:CB W t 24 (aY sv hv tv p.most)) (ck:CB W s 3 #[.int .i64 kind])=>b7Y p kind l v sv hv tv t s W ((C.below U).more U.size) K (hp.below U) cp ck (B.below U) (J.below U);obtain⟨db,c⟩:=V (E d);have HD:=F (show bD v d=#[v,.string db] by rw[c]);have i:=F<|λx:Z=>(show Value.agg #[x,.string db]=.agg (bD x d) by rw[c]);obtain⟨W,hw,h,u,y,c3,z⟩:=Zx w (aY sv hv tv p.most) kind v d;obtain⟨N,P,n,q,HW,eM⟩:=ee u y c3 z hw h;generalize l.filter (jO p kind)=L at f⊢;clear u y c3 z hw h c C K hp B J;go_enter func24,ntmps24
 go_upto_region 1 with((with_reducible apply bS);refine aM rfl 45 rfl _ _ (pC _) ?_)
 rw[HW.o]
 go_upto_region 2 with(first|((with_reducible apply bS);refine yw rfl 8 rfl (w.heap.size+2) 45 (bD v d) n.o 0 v rfl rfl ?_)|(go_at_call 48;refine(f.o w.heap.size (w.heap.size+1) _ q.o.bL N.o P.o).m ?_;rintro e w3⟨v3,rfl,ir,U⟩;have IR:=F ir;have k:=F U;clear ir U))
 obtain⟨a3,n3,c3,rfl⟩:=IR.o.slice;obtain⟨R,T,j,g⟩:=dT (n.o.keep k.o) (q.o.below k.o) (show(bD v d)[1]?= some (.string db) by rw[HD.o];rfl) (show w.heap.size+3<W.heap.size by have:=eM.o;omega)
 go_wp2_with((with_reducible apply bS);first|refine kA rfl 13 rfl (w.heap.size+2) 45 (bD v d) R.o 1 (.string db) j.o rfl ?_|(refine wu rfl 6 15 rfl w (w.heap.size+3) T.o (.slice a3 n3 c3) d rfl rfl (i.o _) ?_;intro w6 M t6;have r:=F M;have Xd:=F<|IR.o.tn t6 g.o;clear M t6))
 exact tE results24 rfl r.o ⟨_,rfl,Xd.o.base (by have:=g.o;omega),r.o.bL⟩

def Tk(l:List O):Prop:=l.length<=20/\∀x∈l,List.length x<=200
def GE(p:qh):Nat->List O
 |0=>p.schemes
 |1=>p.hosts
 |_=>p.types
theorem KV(p:qh)(sv hv tv:Z)(w:H)(h:BB w sv hv tv p):Calls prog 5 #[.agg (aY sv hv tv p.most)] w λe w'=>zH (EL p) e/\r7 w w':=by
 obtain⟨r,z,e1⟩:=cQ h.s;obtain⟨u,B,e2⟩:=cQ h.h;obtain⟨y,y3,e3⟩:=cQ h.t;rw[ay]at e1 e2 e3;obtain⟨m,M,q,N,n3,CO⟩:=ax (p.schemes.length) (p.hosts.length) (p.types.length);rw[<-M]at e1;rw[<-N]at e2;rw[<-CO]at e3;subst e1 e2 e3;clear M N CO;obtain⟨G',hG⟩:∃G':Prop,G'=EL p:=⟨_,rfl⟩;rw[<-hG];have HG:=F (show(∀j,j<3->Tk (GE p j))->G' from λf=>by rw[hG];exact⟨f 0 M0,f 1 M0,f 2 M0⟩);obtain⟨W,hw,hsz,c1,T,G⟩:=qd w 24 22 (aY (.slice r m z) (.slice u q B) (.slice y n3 y3) p.most) #[(.slice r m z),(.slice u q B),(.slice y n3 y3)]
 have HT:=fo (∀k,k<3->∃a n c,W.cell? ⟨w.heap.size+1,k,none⟩=some (.slice a n c)/\n=(GE p k).length/\Sl W.heap.size W (.slice a n c) ((GE p k).map S)) (λk hk=>by
  have key:∀(v:Z) (l:List O),Sl w.heap.size w v (l.map S)->∃a n c,v=.slice a n c/\n=l.length/\Sl W.heap.size W (.slice a n c) (l.map S):=λv l D=>by
   obtain⟨a,c,e⟩:=cQ D;rw[ay]at e;exact⟨a,l.length,c,e,rfl,by rw[<-e];exact(D.below G).more G.size⟩
  match k,hk with
  |0,_=>obtain⟨a,n,c,e,Y,I⟩:=key (.slice r m z) _ h.s;exact⟨a,n,c,by rw[T.cell,<-e];rfl,Y,I⟩
  |1,_=>obtain⟨a,n,c,e,Y,I⟩:=key (.slice u q B) _ h.h;exact⟨a,n,c,by rw[T.cell,<-e];rfl,Y,I⟩
  |2,_=>obtain⟨a,n,c,e,Y,I⟩:=key (.slice y n3 y3) _ h.t;exact⟨a,n,c,by rw[T.cell,<-e];rfl,Y,I⟩)
 have X:=CB.new w 24 (aY (.slice r m z) (.slice u q B) (.slice y n3 y3) p.most);obtain⟨w1,d⟩:=V (w.alloc (.cells (aY (.slice r m z) (.slice u q B) (.slice y n3 y3) p.most) 24));have hz1:w1.heap.size=w.heap.size+1:=by rw[d];simp
 rw[<-d]at X hw;obtain⟨R,L,HW,P,HSW⟩:=ec X d hw G (show w.heap.size+1<W.heap.size by omega);clear hG hw hsz c1 T G h d X;go_enter func5,ntmps5
 go_upto_region 1 with fail
 rw[<-L.o]
 go_upto_region 3 with((with_reducible apply bS);first|refine gwr r5 6 rfl w.heap.size 0 24 (aY (.slice r m z) (.slice u q B) (.slice y n3 y3) p.most) R.o (.slice r m z) rfl rfl ?_|refine gwr r5 8 rfl w.heap.size 1 24 (aY (.slice r m z) (.slice u q B) (.slice y n3 y3) p.most) R.o (.slice u q B) rfl rfl ?_|refine gwr r5 10 rfl w.heap.size 2 24 (aY (.slice r m z) (.slice u q B) (.slice y n3 y3) p.most) R.o (.slice y n3 y3) rfl rfl ?_)
 rw[HW.o];generalize w.heap.size+1=g at HT HSW⊢;clear hz1 HW L R
 go_loopw [4,5] (λkv _ wr=>∃k:Nat,k<=3/\kv=.int .i64 k/\Hid (∀j,j<k->Tk (GE p j))/\W=wr) (λkv _ _=>3-(intOf kv).toNat)
 exact⟨0,M0,Oc,λj C=>M0,rfl⟩
 obtain⟨k,hk,rfl,hd,rfl⟩:=hrel;by_cases hlt:k<3
 ·obtain⟨av,n,c,hc,hn,J⟩:=HT.o k hlt
  have K:=F J;have xm:=F hn
  have HD:=fo (Tk (GE p k)->∀j,j<k+1->Tk (GE p j)) (λf j C=>by
   by_cases e:j=k
   ·subst e;exact f
   exact hd.o j M0)
  have hn9:n<=9223372036854775807:=by
   obtain⟨c',Y,I,_⟩:=J;rw[ay]at Y;unfold maxLen at I;omega
  clear J hn hd;generalize GE p k=l at K xm HD
  go_upto_region 6 with fail
  go_loopw [5] (λiv wr=>∃i:Nat,i<=n/\i<=30/\iv=.int .i64 i/\Hid (∀j (C:j<l.length),j<i->l[j].length<=200)/\W=wr) (λiv _=>30-(intOf iv).toNat)
  exact⟨0,M0,M0,Oc,λj C h=>M0,rfl⟩
  obtain⟨i,hi,b4A,rfl,D,rfl⟩:=hrel;by_cases hin:i<n/\i<30
  ·have hil:i<l.length:=by rw[<-xm.o];exact hin.1
   obtain⟨b,o,rfl,hbb,hcc⟩:=gO K.o i hil;have t1:(i:Int)<n:=M0;have t2:(i:Int)<30:=M0
   have HS:=fo (l[i].length<=200->∀j (C:j<l.length),j<i+1->l[j].length<=200) (λf j C hji=>by
    by_cases e:j=i
    ·subst e;exact f
    exact D.o j C M0)
   generalize l[i]=x at hcc HS;clear D;by_cases h5:(200:Int)<x.length
   ·go_wp2_with fail
    go_ret;exact⟨zH.ff,P.o⟩
   have HS2:=F<|HS.o M0;go_wp2_with fail;go_roundw
   exact⟨i+1,M0,M0,by go_num,HS2.o,by trivial⟩
   exact aa
  by_cases h20:(20:Int)<n
  ·by_cases t1:(i:Int)<n
   ·have t2:¬(i:Int)<30:=by omega
    go_wp2_with fail;go_ret;exact⟨zH.ff,P.o⟩
   go_wp2_with fail;go_ret;exact⟨zH.ff,P.o⟩
  have t1:¬(i:Int)<n:=M0
  have HF:=F<|HD.o ⟨by rw[<-xm.o];omega,λx X=>by
   obtain⟨j,C,rfl⟩:=cC X;exact D.o j C (by have:=xm.o;omega)⟩
  clear D;go_wp2_with fail;go_roundw
  exact⟨k+1,M0,by go_num,HF.o,by trivial⟩
  exact aa
 obtain rfl:k=3:=M0;go_wp2_with fail;go_ret;exact⟨zH.of λ_=>HG.o hd.o,P.o⟩

theorem b7U(d:ByteArray):∀w,(Instr.build 45 #[(1,.string d)]).run prog w=.ok (.agg #[aI,.string d]) w:=λw=>Rz
