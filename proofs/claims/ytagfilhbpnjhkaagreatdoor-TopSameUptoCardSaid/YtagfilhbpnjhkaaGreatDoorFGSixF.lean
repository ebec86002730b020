import Derived.Recover
import Derived.Laws.Pointers
import Derived.Test.YtagfilhbpnjhkaaGreatDoorFGSixA
set_option maxRecDepth 10000
set_option maxHeartbeats 0
abbrev Go.CallsD.m:=@Go.CallsD.mono
namespace Go.Proofs.Q
open Tryz Go.RowKit
variable{ops:Array Oper}{w2 w3 wr:H}{R:Option gF}
structure Two (w:H) (b:Nat) (cs:List Int) (q:Bool) (wr:H):Prop where
 a:wr.heap[b]?= some (.cells (dz cs).toArray 30 (0,0))
 ok:wr.heap[b+1]?= some (.cells #[.bool q] 4 (0,0))
 len:cs.length=8
 bL:r7 w wr
theorem Two.lt{w:H}{b:Nat}{cs:List Int}{q:Bool}(h:Two w b cs q wr):b+1<wr.heap.size:=(bw.1 h.ok).1
theorem Two.below{w:H}{b:Nat}{cs:List Int}{q:Bool}(h:Two w b cs q wr)(U:w.heap.size<=b)(I:r7 wr w2):Two w b cs q w2:=by
 have:=h.lt;exact⟨(I.block b M0).trans h.a,(I.block (b+1) M0).trans h.ok,h.len,h.bL.trans (I.m M0)⟩
theorem Two.row{w:H}{b:Nat}{cs ds:List Int}{q:Bool}(h:Two w b cs q wr)(U:w.heap.size<=b)(hd:ds.length=8):Two w b ds q (wr.setRow b (dz ds).toArray) :=
 ⟨setRow_heap wr b _ _ _ _ h.a,(setRow_other wr b (b+1) _ M0).trans h.ok,hd,below_setRow h.bL U _⟩
theorem Two.set{w:H}{b:Nat}{cs:List Int}{q:Bool}(h:Two w b cs q wr)(U:w.heap.size<=b)(p:Bool):Two w b cs p (wr.setCell ⟨b+1,0,none⟩ (.bool p)):=by
 have e:=setCell_eq_setRow wr (b+1) 0 _ _ _ (.bool p) h.ok;rw[e];exact⟨(setRow_other wr (b+1) b _ M0).trans h.a,setRow_heap wr (b+1) _ _ _ _ h.ok,h.len,below_setRow h.bL M0 _⟩
theorem Two.cell{w:H}{b:Nat}{cs:List Int}{q:Bool}(h:Two w b cs q wr):wr.cell? ⟨b+1,0,none⟩=some (.bool q)/\wr.frozen? ⟨b+1,0,none⟩=false:=by
 constructor
 ·simp[World.cell?,h.ok]
 simp[World.frozen?,h.ok]
def Z8:List Int:=[0,0,0,0,0,0,0,0]
theorem qu(w:H):(Instr.alloc 30 true (Value.tuple #[])).run prog w=.ok (.pointer (some ⟨w.heap.size,0,none⟩)) (w.alloc (.cells (dz Z8).toArray 30)):=Rz
theorem oD:(prog.info? 30).map (·.size)=some 8:=Rz
theorem Gz(cs:List Int):(dz cs).toArray.all (·.oneCell')=true:=by
 rw[Array.all_eq_true];intro i hi;simp[Value.oneCell']
theorem MI(w:H):Two w w.heap.size Z8 false ((w.alloc (.cells (dz Z8).toArray 30)).alloc (.cells #[.bool false] 4)):=by
 refine⟨?_,?_,rfl,((gT _ w).alloc (ag _) _).alloc Oc _⟩
 ·rw[Below.heap_alloc _ _ _ Oc,jp]
 have:=jp (w.alloc (.cells (dz Z8).toArray 30)) (.cells #[.bool false] 4)
 simpa using this
theorem b7N(w0:H)(b:Nat)(cs:List Int)(q:Bool)(u:TypeId)(A:Z)(older:List PanicEntry)(w:H)(h:Two w0 b cs q w)(U:w0.heap.size<=b) :
  CallsD prog 241 #[.pointer (some ⟨b,0,none⟩),.pointer (some ⟨b+1,0,none⟩)] (.panicking ({v:=.iface u A,recovered:=false}::older)) w λe g i =>
   e=.returned (.tuple #[])/\g=.panicking ({v:=.iface u A,recovered:=true}::older)/\Two w0 b Z8 false i:=by
 refine callsD_of_wpS func241 rfl λc₀ cs hu=>?_
 apply wpS_seq
 apply wpS_region
 simp[wpOpsS,go_sem,recoverD,hu,ntmps241,Exit.thenS];refine wpS_cond (t:=true) (by simp[Act.eval,Array.replicate]) ?_;simp only[if_true];refine wpS_of_wp ?_;have d:=F h;clear h
 go_wp2_with(first
  | (refine wpList_store_row rfl 30 0 4 rfl b (dz Z8).toArray rfl rfl _ _ d.o.a (by rw[oD];rfl) (by simp[d.o.len,Z8]) (Gz _) ?_
     have c:=d.o.row (ds:=Z8) U rfl;revert c;generalize w.setRow b (dz Z8).toArray=w2;intro c;obtain⟨hc2,hz2⟩:=c.cell;have f:=F c;clear c))
 simp only[bodyPostS];exact⟨trivial,_,rfl,.tuple #[],by simp[results,results241],rfl,rfl,f.o.set U false⟩
theorem b7M(p r:Addr)(w:H) :
  CallsD prog 241 #[.pointer (some p),.pointer (some r)] .returning w λe c d=>e=.returned (.tuple #[])/\c=.returning/\d=w:=by
 refine callsD_of_wpS func241 rfl λa cs hu=>?_
 apply wpS_seq
 apply wpS_region
 simp[wpOpsS,go_sem,recoverD,hu,ntmps241,Exit.thenS];refine wpS_cond (t:=false) (by simp[Act.eval,Array.replicate]) ?_;simp only[eH,if_false];refine wpS_of_wp (wp_skip ?_);cases a;simp_all[bodyPostS,results,results241]

abbrev a0R(o:Option (List Int)):Ending:=.returned (.tuple #[.agg (dz (o.getD Z8)).toArray,.bool o.isSome])
theorem zT{rest:List Oper}{o:Oper}{a:Act}{w:H}{Q:Exit->Act->H->Prop}(f:o.guard=none)(d s:Operand)(p D:TypeId)
  (L:o.op=.call {callee:=.builtin .copy,args:=#[d,s],argTypes:=#[p,D]}) (elem:TypeId) (hu:prog.underlying p=some (.slice elem)) (m:(prog.info? elem).map (·.size)=some 1)
  (w0:H) (g:Nat) (cs:List Int) (q:Bool) (c:Two w0 g cs q w) (W:w0.heap.size<=g) (off dLen dCap:Nat) (hd:a.eval d=.slice (some ⟨g,off,none⟩) dLen dCap)
  (sp:Option Addr) (sLen sCap:Nat) (M:a.eval s=.slice sp sLen sCap) (l:List Int) (y:l.length=sLen) (B:Nat) (hsrc:Sl B w (.slice sp sLen sCap) (dz l)) (hfit:off+sLen<=8) (x:sLen<=dLen)
  (h:∀J,Two w0 g (splice cs off l) q J->w.grownBy J (some g)->wpList prog ops Q rest (a.put o.dst (goInt sLen)) J):wpList prog ops Q (o::rest) a w:=by
 by_cases r:l=[]
 ·subst r
  obtain rfl:sLen=0:=y.symm;refine wpList_copy_nothing f d s p D L elem hu m _ _ _ _ _ _ hd M (Nat.zero_min _) ?_;have e:splice cs off []=cs:=by simp[splice]
  exact h w (by rw[e];exact c) ⟨rfl,rfl,rfl,ag _,λ_ _ _=>rfl⟩
 have hn0:sLen≠0:=λe=>r (az M0);obtain⟨c',_,_,X⟩:=hsrc;rcases X with⟨X,_⟩|⟨N,o',_,C,t⟩
 ·exact absurd (by simpa using X) r
 injection C with P e2 e3
 subst P;have u:(dz cs).toArray.size=8:=by simp[c.len]
 have hfin:=λT:_=>h (w.setRow g (dz (splice cs off l)).toArray) (c.row W (by rw[length_splice _ _ _ (by rw[c.len];omega)];exact c.len)) T;refine wpList_copy_own f d s p D L elem hu m g off dLen dCap ⟨N,o',none⟩ sLen sCap hd M (dz cs).toArray _ c.a (dz l) (by rw[ay,y];exact(xB x).symm) ?_ (by rw[ay,u];omega) ?_ ?_
 ·intro j v K
  have i:j<(dz l).length:=(bh.mp K).1;rw[addr_add,t j i,<-List.getElem?_eq_getElem i,K]
 ·intro v C
  obtain⟨n,_,rfl⟩:=dt.mp C;rfl
 have e:((dz cs).toArray.toList.take off++(dz l++(dz cs).toArray.toList.drop (off+(dz l).length))).toArray=(dz (splice cs off l)).toArray:=by
  simp[splice,List.map_take,List.map_drop]
 rw[e,show(dz l).length=sLen by rw[ay,y]];exact hfin ⟨rfl,rfl,rfl,by simp[World.setRow],λk hk z=>setRow_other w g k _ (λe=>z (by rw[e]))⟩
theorem JE{tmps:Array Z}{w:H}{g:Nat}{cs:List Int}{q:Bool}(I:tmps.getD 2 undef=.pointer (some ⟨g,0,none⟩))(f:tmps.getD 3 undef=.pointer (some ⟨g+1,0,none⟩))(h:Two w g cs q w2) :
  (results f236 tmps).run prog w2=.ok (.tuple #[.agg (dz cs).toArray,.bool q]) w2:=by
 have c:tmps[2]?.getD undef=.pointer (some ⟨g,0,none⟩):=by simpa using I
 have d:tmps[3]?.getD undef=.pointer (some ⟨g+1,0,none⟩):=by simpa using f
 have j:=run_loadVar_row (P:=prog) w2 g 30 30 (dz cs).toArray (0,0) _ h.a underlying30 rfl (by rw[oD];simp[h.len]);obtain⟨i,hz⟩:=h.cell;have e:(loadVar 4 ⟨g+1,0,none⟩).run prog w2=.ok (.bool q) w2:=by simp[go_sem,i]
 simp[results,results236,asAddr,c,d,j,e]
theorem xd:(prog.info? 29).map (·.size)=some 1:=Rz
theorem y0{tmps:Array Z}{w:H}{g:Nat}{cs:List Int}{q:Bool}(I:tmps.getD 2 undef=.pointer (some ⟨g,0,none⟩))(c:tmps.getD 3 undef=.pointer (some ⟨g+1,0,none⟩))(h:Two w g cs q w3)(i:w.heap.size<=g){R:Option (List Int)}(d:R=none) :
  bodyPostD prog f236 (λe j=>e=a0R R/\r7 w j) (Exit.panic [{v:=.iface 232 (.agg #[]),recovered:=false}])
   {tmps:=tmps,defers:=[{target:=.fn (.func 241) #[.pointer (some ⟨g,0,none⟩),.pointer (some ⟨g+1,0,none⟩)],args:=#[]}]} w3:=by
 subst d;refine leaves_cons (f:=241) (args:=#[.pointer (some ⟨g,0,none⟩),.pointer (some ⟨g+1,0,none⟩)]) Oc (by simp[go_sem]) ?_;refine(b7N w g cs q _ _ [] w3 h i).m ?_;rintro e u' w4⟨rfl,rfl,a⟩;exact⟨_,JE I c a,rfl,a.bL⟩
theorem oS{tmps:Array Z}{w:H}{g:Nat}{cs:List Int}{q:Bool}(I:tmps.getD 2 undef=.pointer (some ⟨g,0,none⟩))(a:tmps.getD 3 undef=.pointer (some ⟨g+1,0,none⟩))(h:Two w g cs q w3){R:Option (List Int)}(c:cs=R.getD Z8)(d:q=R.isSome) :
  bodyPostD prog f236 (λe i=>e=a0R R/\r7 w i) Exit.ret
   {tmps:=tmps,defers:=[{target:=.fn (.func 241) #[.pointer (some ⟨g,0,none⟩),.pointer (some ⟨g+1,0,none⟩)],args:=#[]}]} w3:=by
 refine leaves_cons (f:=241) (args:=#[.pointer (some ⟨g,0,none⟩),.pointer (some ⟨g+1,0,none⟩)]) Oc (by simp[go_sem]) ?_;refine(b7M _ _ w3).m ?_;rintro e u' w4⟨rfl,rfl,rfl⟩;exact⟨_,JE I a h,by rw[c,d],h.bL⟩
theorem a0T(b K N:Nat)(h:K+N=8):∃c,c+N<=8/\(N≠0->c=K)/\∀W,(Instr.sliceAt 30 (.pointer (some ⟨b,0,none⟩)) (some (.int .i64 (K:Int))) none none).run prog W=.ok (.slice (some ⟨b,c,none⟩) N N) W:=by
 have hk:((K:Int)).toNat=K:=rfl;have hrun:=λW=>run_sliceAt_array_l (P:=prog) W 30 ⟨b,0,none⟩ underlying30 .i64 (K:Int) M0 (by show(K:Int)<=8;omega)
 have a:∀W,(sizeOf (prog.elem 30)).run prog W=.ok 1 W:=λW=>by
  obtain⟨i,hi,_,e,_⟩:=info_parts D5;exact RQ hi e W
 by_cases d:N=0
 ·subst d
  refine⟨0,M0,λh=>absurd rfl h,λW=>?_⟩;rw[hrun,a];have hK:K=8:=M0;subst hK;rfl
 refine⟨K,M0,λ_=>rfl,λW=>?_⟩;rw[hrun,a];show Result.ok (slicedAt ⟨b,0,none⟩ K 8 8 1) W=_;unfold slicedAt;rw[gc M0,show(⟨b,0,none⟩:Addr).add (K*1)=⟨b,K,none⟩ by rw[addr_add];simp,show 8-K=N by omega]
theorem GY{u v:List Int}{c K:Nat}(hK:K+v.length=8)(hL:u.length+v.length<8)(g:v.length≠0->c=K)(ho2:c+v.length<=8) :
  splice (splice Z8 0 u) c v=u++List.replicate (8-u.length-v.length) 0++v:=by
 have f:splice Z8 0 u=u++List.replicate (8-u.length) 0:=by
  unfold splice;have:Z8=List.replicate 8 0:=rfl;rw[this,jk,f9,List.drop_replicate,bM]
 rw[f];unfold splice;by_cases d:v=[]
 ·subst d
  simp only[aO,dH,f9,cT,pA,aV]
 have a:v.length≠0:=λe=>d (az e);rw[g a,b4h,aP M0,List.take_replicate,dG (by simp;omega),aV]
 congr 2
 congr 1
 omega
theorem VO{w:H}{base e n:Nat}{v:Z}{xs:List Z}(h:w.ownsRow base e 1 v n xs){g:Nat}(hg:g<base):v.ownBlock=none\/v.ownBlock≠some g:=by
 rcases h.2 with⟨rfl,_⟩|⟨k,cap,cur,rfl,hk,_⟩
 ·exact .inl rfl
 right
 intro e;simp only[Value.ownBlock,ly]at e;omega
theorem AS(l:O)(w:H)(hl:l.length<=1024000000)(hE:Env w):Calls prog 236 #[.string (E l)] w λe z=>e=a0R (pK l)/\r7 w z:=by
 have hmf:∀(fn:Fn) (first cap:Array Z) (w:H),(Instr.makeFunc fn first cap).run prog w=.ok (.func fn first cap) w:=λ_ _ _ _=>rfl;have me:=λW (h:r7 w W)=>gK l [58,58] W hl (hE.below h);rw[show E [58,58]=⟨#[58,58]⟩from rfl,vQ]at me;have n:=λW (h:r7 w W)=>AP l true W hl (hE.below h);obtain⟨R,hR⟩:=V (pK l);rw[<-hR];unfold pK at hR
 have hlen:∀a b,xE l=some (a,b)->a.length<=1024000000/\b.length<=1024000000:=by
  intro a b h;have Y:=BX l [58,58];rw[vQ,h]at Y;dsimp only at Y;omega
 have hra:=λa b (h:xE l=some (a,b)) W (hw:r7 w W)=>AP a false W (hlen a b h).1 (hE.below hw);have hrb:=λa b (h:xE l=some (a,b)) W (hw:r7 w W)=>AP b true W (hlen a b h).2 (hE.below hw);clear hlen hE hl;have tw:=MI w;obtain⟨s,HS⟩:=ey (E l);rw[<-HS.o]at me n⊢;have k:=F hR;clear hR;have C:=F tw;clear tw;cases hc:xE l with
 |none =>
  rw[hc]at me k;have lB:=F me;clear me;clear hra hrb hc;cases j:rm true l with
  |none =>
   rw[j]at n k
   change ∀W,r7 w W->Calls _ _ _ W λe z=>e=H9/\r7 W z at n
   have T:=F n;clear n j
   go_enter_defers func236,ntmps236
   go_wp2_with(first|(refine aM rfl 30 rfl _ _ (qu _) ?_)|(go_at_call 72;refine(lB.o _ C.o.bL).k λw2 d=>?_;have c:=F<|C.o.below (ag _) d.o;clear d)|(go_at_call 242;refine(T.o _ c.o.bL).k λw3 f=>?_;have i:=F<|c.o.below (ag _) f.o;clear f))
   exact y0 rfl rfl i.o (ag _) k.o
  |some v =>
   rw[j]at n k
   change ∀W,r7 w W->Calls _ _ _ W λe z=>(∃x,e=.returned x/\z.ownsRow W.heap.size 29 1 x v.length (dz v))/\r7 W z at n
   have T:=F n;clear n;have EE:=F<|jf j;clear j;obtain⟨N,Q⟩:=ey (v.length);have hN8:N<=8:=by rw[Q.o];exact EE.o.2
   have hr:=k.o;dsimp only at hr;rw[<-Q.o]at hr;have k:=F hr;clear hr;by_cases h8:N=8
   ·rw[ge h8]at k
    subst h8
    go_enter_defers func236,ntmps236
    go_wp2_with(first
     |(refine aM rfl 30 rfl _ _ (qu _) ?_)
     |(go_at_call 72;refine(lB.o _ C.o.bL).k λw2 d=>?_;have c:=F<|C.o.below (ag _) d.o;clear d)
     |(go_at_call 242;refine(T.o _ c.o.bL).m ?_;rintro e w3⟨⟨x,rfl,g⟩,f⟩;rw[<-Q.o]at g;obtain⟨av,cv,hv⟩:=ex g;subst hv;have jx:=F<|Sl.g9 g;clear g;have i:=F<|c.o.below (ag _) f;clear f)
     |((refine zT rfl 25 26 _ _ rfl 29 underlying222 xd w w.heap.size Z8 false i.o (ag _) 0 8 8 rfl av 8 cv rfl v Q.o.symm _ jx.o M0 M0 ?_);intro w4 Vk hg4;rw[show splice Z8 0 v=v by unfold splice;rw[<-Q.o];simp[Z8]]at Vk;have B:=F Vk;clear Vk hg4)
     |(refine wpList_load_row rfl 30 2 rfl w.heap.size rfl _ _ _ _ B.o.a underlying30 rfl (by rw[oD];simp[B.o.len]) ?_)
     | (refine wpList_store_row rfl 30 2 28 rfl w.heap.size (dz v).toArray rfl rfl _ _ B.o.a (by rw[oD];simp[B.o.len]) Oc (Gz _) ?_
        have D:=B.o.row (ds:=v) (ag _) B.o.len;revert D;generalize World.setRow _ w.heap.size (dz v).toArray=w5;intro D;obtain⟨hc5,hz5⟩:=D.cell;have YH:=F D;clear D))
    exact oS rfl rfl (YH.o.set (ag _) true) (by rw[k.o];rfl) (by rw[k.o];rfl)
   rw[gc h8]at k;have h8':((N:Int)==8)=false:=by simp;omega
   go_enter_defers func236,ntmps236
   go_wp2_with(first
    |(refine aM rfl 30 rfl _ _ (qu _) ?_)
    |(go_at_call 72;refine(lB.o _ C.o.bL).k λw2 d=>?_;have c:=F<|C.o.below (ag _) d.o;clear d)
    |(go_at_call 242;refine(T.o _ c.o.bL).m ?_;rintro e w3⟨⟨x,rfl,g⟩,f⟩;rw[<-Q.o]at g;obtain⟨av,cv,hv⟩:=ex g;subst hv;have jx:=F<|Sl.g9 g;clear g;have i:=F<|c.o.below (ag _) f;clear f)
    | (refine wpList_store_row rfl 30 2 24 rfl _ (dz Z8).toArray rfl rfl _ _ i.o.a (by rw[oD];rfl) (by simp[Z8]) (Gz _) ?_
       have Vk:=i.o.row (ds:=Z8) (ag _) rfl;revert Vk;generalize World.setRow _ w.heap.size (dz Z8).toArray=w4;intro Vk;obtain⟨hc4,hz4⟩:=Vk.cell;have B:=F Vk;clear Vk))
   exact oS rfl rfl (B.o.set (ag _) false) (by rw[k.o];rfl) (by rw[k.o];rfl)
 |some ab =>
  obtain⟨a,b⟩:=ab;rw[hc]at me k;have t:=hra a b hc;have q:=hrb a b hc;clear hra hrb n hc;have lB:=F me;clear me;have hr0:R=(match rm false a,rm true b with|some l,some r=>if 8<=l.length+r.length then none else some (l++List.replicate (8-l.length-r.length) 0++r)|_,_=>none):=k.o;have k:=F hr0;clear hr0;cases j:rm false a with
  |none =>
   rw[j]at t k
   change ∀W,r7 w W->Calls _ _ _ W λe z=>e=H9/\r7 W z at t
   have M:=F t;clear t q j
   go_enter_defers func236,ntmps236
   go_wp2_with(first|(refine aM rfl 30 rfl _ _ (qu _) ?_)|(go_at_call 72;refine(lB.o _ C.o.bL).k λw2 d=>?_;have c:=F<|C.o.below (ag _) d.o;clear d)|(go_at_call 242;with_reducible refine(M.o _ c.o.bL).k λw3 f=>?_;have i:=F<|c.o.below (ag _) f.o;clear f))
   exact y0 rfl rfl i.o (ag _) k.o
  |some u =>
   rw[j]at t k
   change ∀W,r7 w W->Calls _ _ _ W λe z=>(∃x,e=.returned x/\z.ownsRow W.heap.size 29 1 x u.length (dz u))/\r7 W z at t
   have M:=F t;clear t;obtain⟨L,hL⟩:=V (u.length);have hL8:L<=8:=by rw[hL];exact(jf j).2
   have HL:=F hL;clear hL j;cases j:rm true b with
   |none =>
    rw[j]at q k
    change ∀W,r7 w W->Calls _ _ _ W λe z=>e=H9/\r7 W z at q
    have HR3:=F q;clear q j
    go_enter_defers func236,ntmps236
    go_wp2_with(first|(refine aM rfl 30 rfl _ _ (qu _) ?_)|(go_at_call 72;refine(lB.o _ C.o.bL).k λw2 d=>?_;have c:=F<|C.o.below (ag _) d.o;clear d)|(go_at_call 242;with_reducible refine(M.o _ c.o.bL).m ?_;rintro e w3⟨⟨x,rfl,g⟩,f⟩;clear g;have i:=F<|c.o.below (ag _) f;clear f)|(go_at_call 242;with_reducible refine(HR3.o _ i.o.bL).k λw4 p=>?_;have B:=F<|i.o.below (ag _) p.o;clear p))
    exact y0 rfl rfl B.o (ag _) (by rw[k.o])
   |some v =>
    rw[j]at q k
    change ∀W,r7 w W->Calls _ _ _ W λe z=>(∃x,e=.returned x/\z.ownsRow W.heap.size 29 1 x v.length (dz v))/\r7 W z at q
    have HR3:=F q;clear q;obtain⟨N,hN⟩:=V (v.length);have hN8:N<=8:=by rw[hN];exact(jf j).2
    have Q:=F hN;clear hN j;have hr:=k.o;dsimp only at hr;rw[<-HL.o,<-Q.o]at hr;have k:=F hr;clear hr;have hws:IntKind.i64.wrap ((L:Int)+(N:Int))=(L:Int)+(N:Int):=gS _ M0;by_cases h8:8<=L+N
    ·rw[ge h8]at k
     have h8':(8:Int)<=(L:Int)+(N:Int):=M0
     go_enter_defers func236,ntmps236
     go_wp2_with(first
    |(refine aM rfl 30 rfl _ _ (qu _) ?_)
    |(go_at_call 72;refine(lB.o _ C.o.bL).k λw2 d=>?_;have c:=F<|C.o.below (ag _) d.o;clear d)
    |(go_at_call 242;with_reducible refine(M.o _ c.o.bL).m ?_;rintro e w3⟨⟨x,rfl,g⟩,f⟩;rw[<-HL.o]at g;obtain⟨av,cv,hv⟩:=ex g;subst hv;clear g;have i:=F<|c.o.below (ag _) f;clear f)
    |(go_at_call 242;with_reducible refine(HR3.o _ i.o.bL).m ?_;rintro e w4⟨⟨y,rfl,qV⟩,p⟩;rw[<-Q.o]at qV;obtain⟨aw,cw,hw⟩:=ex qV;subst hw;clear qV;have B:=F<|i.o.below (ag _) p;clear p)
    | (refine wpList_store_row rfl 30 2 39 rfl _ (dz Z8).toArray rfl rfl _ _ B.o.a (by rw[oD];rfl) (by simp[Z8]) (Gz _) ?_
       have D:=B.o.row (ds:=Z8) (ag _) rfl;revert D;generalize World.setRow _ w.heap.size (dz Z8).toArray=w5;intro D;obtain⟨hc5,hz5⟩:=D.cell;have YH:=F D;clear D))
     exact oS rfl rfl (YH.o.set (ag _) false) (by rw[k.o];rfl) (by rw[k.o];rfl)
    ·rw[gc h8]at k
     have h8':¬(8:Int)<=(L:Int)+(N:Int):=M0;obtain⟨K,hK⟩:=V (8-N);have hwk:IntKind.i64.wrap (8-(N:Int))=(K:Int):=by rw[gS _ M0];omega
     have hK8:K<=8:=M0;have hKN:K+N=8:=M0;obtain⟨o',ho1,ho2,hsl⟩:=a0T w.heap.size K N hKN
     have a4E:splice (splice Z8 0 u) o' v=u++List.replicate (8-L-N) 0++v:=by
      have e1:=HL.o;have e2:=Q.o;rw[e1,e2];exact GY (K:=K) M0 M0 (by rw[<-e2];exact ho2) M0
     have a74:=F a4E;clear a4E;have HK:=F hKN;clear hK hKN;have eJ:=F ho2;clear ho2
     go_enter_defers func236,ntmps236
     go_wp2_with(first
    |(refine aM rfl 30 rfl _ _ (qu _) ?_)
    |(go_at_call 72;refine(lB.o _ C.o.bL).k λw2 d=>?_;have c:=F<|C.o.below (ag _) d.o;clear d)
    |(go_at_call 242;with_reducible refine(M.o _ c.o.bL).m ?_;rintro e w3⟨⟨x,rfl,g⟩,f⟩;rw[<-HL.o]at g;obtain⟨av,cv,hv⟩:=ex g;subst hv;have jx:=F g;clear g;have hz3:=c.o.lt;have i:=F<|c.o.below (ag _) f;clear f)
    |(go_at_call 242;with_reducible refine(HR3.o _ i.o.bL).m ?_;rintro e w4⟨⟨y,rfl,qV⟩,p⟩;rw[<-Q.o]at qV;obtain⟨aw,cw,hw⟩:=ex qV;subst hw;have qp:=F qV;clear qV;have a7R:=F<|own_below jx.o p;have hz4:=i.o.lt;have B:=F<|i.o.below (ag _) p;clear p)
    |((refine zT rfl 40 41 _ _ rfl 29 underlying222 xd w w.heap.size Z8 false B.o (ag _) 0 8 8 rfl av L cv rfl u HL.o.symm _ (Sl.g9 a7R.o) M0 M0 ?_);intro w5 D hg5;have YH:=F D;have xn:=F<|qp.o.kept hg5 (VO qp.o M0);clear D hg5)
    |((refine zT rfl 46 47 _ _ rfl 29 underlying222 xd w w.heap.size _ false YH.o (ag _) o' N N rfl aw N cw rfl v Q.o.symm _ (Sl.g9 xn.o) ho1 (ag _) ?_);intro w6 ht6 hg6;rw[a74.o]at ht6;have J:=F ht6;clear ht6 hg6)
    |(refine wpList_load_row rfl 30 2 rfl w.heap.size rfl _ _ _ _ J.o.a underlying30 rfl (by rw[oD];simp only[fZ,ay,J.o.len]) ?_)
    | (refine wpList_store_row rfl 30 2 49 rfl w.heap.size (dz (u++List.replicate (8-L-N) 0++v)).toArray rfl rfl _ _ J.o.a (by rw[oD];simp only[fZ,ay,J.o.len]) rfl (Gz _) ?_
       have P:=J.o.row (ds:=(u++List.replicate (8-L-N) 0++v)) (ag _) J.o.len;revert P;generalize World.setRow _ w.heap.size (dz (u++List.replicate (8-L-N) 0++v)).toArray=w7;intro P;obtain⟨hc7,hz7⟩:=P.cell;have HT7:=F P;clear P))
     exact oS rfl rfl (HT7.o.set (ag _) true) (by rw[k.o];rfl) (by rw[k.o];rfl)

def Jr(c:Int):Bool:=np c||decide (c<32\/c=37\/c=127)
def H0:gF:={kind:=0,name:=[],four:=0,six:=Z8}
def Xu(s:O):Option gF:=if Lib.hasSuffix s [93]=true then(match pK (Lib.trimSuffix s [93])with|none=>none|some a=>some {H0 with kind:=4,six:=a})else none
def XX(s:O):Option gF :=
 match nw (nJ s)with
 |none=>none
 |some n=>if n=[]then none else if n.any (λx=>Jr (G x))=true then none else if yo n=true then(match nZ n with|none=>none|some v=>some {H0 with kind:=3,four:=v})else some {H0 with kind:=2,name:=n}
def fm(s:O)(special:Bool):Option gF :=
 if s.head? = some 91 then Xu (s.drop 1)
 else if special=true then XX s
 else if s=[]then some {H0 with kind:=1}
 else if s.any (λx=>np (G x))=true then none
 else some {H0 with kind:=5,name:=dD 0 s}
theorem NJ{f:UInt8->Bool}{l:O}(h:∀k (a:k<l.length),f l[k]=false):l.any f=false:=by
 rw[M6];intro x X;obtain⟨k,a,rfl⟩:=cC X;simp[h k a]
theorem Ib{f:UInt8->Bool}{l:O}{k:Nat}(a:k<l.length)(h:f l[k]=true):l.any f=true:=m8.mpr ⟨l[k],be a,h⟩

theorem b1f{t:O}(a:∀p∈mr t,a94 p):nw t=some t:=by
 have hbytes:∀y∈t,G y<0x80/\¬(65<=G y/\G y<=90):=by
  have key:∀(p:O) (d:List O),(∀q∈p::d,a94 q)->∀y∈iw (p::d),G y<0x80/\¬(65<=G y/\G y<=90):=by
   intro p d
   induction d generalizing p with
   |nil =>
    intro a y hy;unfold iw at hy;rw[Lib.join_one]at hy;have:=(a p Oc).1 y hy;exact⟨this.1,this.2.1⟩
   |cons q qs k =>
    intro a y hy;rw[vM]at hy;rcases bO.mp hy with hy|hy
    ·have:=(a p Oc).1 y hy
     exact⟨this.1,this.2.1⟩
    rcases aK.mp hy with rfl|hy
    ·decide
    exact k q (λz i=>a z (by simp only[aK]at i⊢;exact .inr i)) y hy
  obtain⟨p,d,hp⟩:=uq t;have f:=vP t;rw[hp]at a f;rw[<-f];exact key p d a
 have f:=a5W (λy hy=>(hbytes y hy).1)
 have hmap:∀c∈t.map G,gV c=(enc c,1)/\Utf8.valid c=true:=by
  intro c e;obtain⟨y,hy,rfl⟩:=dt.mp e;have Y:=hbytes y hy;have j:=jL y;exact⟨a9V j.1 Y.1 Y.2,(sQ _).mpr M0⟩
 have h:signs t=t.map G:=by
  conv=>lhs;rw[f]
  exact a4A (λc e=>(hmap c e).2)
 obtain⟨t1,t2⟩:=a58 (m:=t.map G) (λc e=>(hmap c e).1);rw[<-f]at t1;rw[KI,h];unfold Zo;rw[ge t2,t1]
 have hout:(mr t).map iz=mr t:=by
  conv=>rhs;rw[<-List.map_id (mr t)]
  refine jJ λq g=>?_;unfold iz;rw[(a q g).2];rfl
 rw[ge,hout,vP];exact dl.mpr λq g=>by unfold Q7;rw[(a q g).2];rfl
def d3F(u:Nat):O:=if u<10 then [UInt8.ofNat (48+u)]else if u<100 then [UInt8.ofNat (48+u/10),UInt8.ofNat (48+u%10)]else [UInt8.ofNat (48+u/100),UInt8.ofNat (48+u/10%10),UInt8.ofNat (48+u%10)]
theorem b28{u:Nat}(h:u<256):Lib.decDigits u=d3F u:=by
 unfold d3F;by_cases Y:u<10
 ·rw[ge Y,Lib.decDigits_one Y]
 rw[gc Y];by_cases I:u<100
 ·rw[ge I,Lib.decDigits_two Y I]
 rw[gc I,Lib.decDigits,dif_neg Y,Lib.decDigits_two M0 M0,c0M];rfl
theorem b1a:∀k:Fin 256,un 4294967296 (d3F k.val)=some (k.val:Int)/\d3F k.val ≠ []/\(d3F k.val).length<=3/\(d3F k.val).all (λy=>decide (48<=G y/\G y<=57))=true:=by decide +kernel
theorem a3M{u:Nat}(h:u<256):un 4294967296 (Lib.decDigits u)=some (u:Int)/\Lib.decDigits u ≠ []/\(Lib.decDigits u).length<=3/\∀y∈Lib.decDigits u,48<=G y/\G y<=57:=by
 rw[b28 h];obtain⟨a,b,c,d⟩:=b1a ⟨u,h⟩;exact⟨a,b,c,λy hy=>of_decide_eq_true (dl.mp d y hy)⟩
theorem a4g{u:Nat}(h:u<256):(46:UInt8)∉Lib.decDigits u:=λhm=>by
 have:=(a3M h).2.2.2 _ hm;revert this;decide
theorem b1b{u:Nat}(h:u<256):a94 (Lib.decDigits u):=by
 obtain⟨_,I,h3,a⟩:=a3M h;refine⟨λy hy=>?_,b0w ?_ (b1T λy hy=>by have:=a y hy;omega)⟩
 ·have:=a y hy
  exact⟨M0,M0,λe=>a4g h (e▸hy)⟩
 unfold Lib.hasPrefix kE
 match hd:Lib.decDigits u with
 | []=>rfl
 |y::r =>
  have:=a y (by rw[hd];simp);have c:¬(120:UInt8)=y:=λe=>by rw[<-e]at this;revert this;decide
  simp[List.isPrefixOf,c]
theorem a7G{n:Nat}(hn:n<4294967296):ic 46 (tj n)=[Lib.decDigits (n/16777216),Lib.decDigits (n/65536%256),Lib.decDigits (n/256%256),Lib.decDigits (n%256)]:=by
 unfold tj;simp only[bB,dE,f9];rw[uY,uY,uY,oL (a4g M0),oL (a4g M0),oL (a4g M0),oL (a4g M0)];rfl
theorem a6k{n:Nat}(a:n<4294967296):eQ (tj n)=[Lib.decDigits (n/16777216),Lib.decDigits (n/65536%256),Lib.decDigits (n/256%256),Lib.decDigits (n%256)]:=by
 unfold eQ;rw[a7G a,gc];rintro⟨_,h⟩;simp only[b84,a6B,ly]at h;exact(a3M (u:=n%256) M0).2.1 h
theorem b0F{n:Nat}(a:n<4294967296):yo (tj n)=true:=by
 unfold yo
 have h:(eQ (tj n)).getLast (lQ _)=Lib.decDigits (n%256):=by
  simp only[a6k a];rfl
 rw[h];unfold Jk;rw[(a3M (u:=n%256) M0).1];rfl
theorem b0E{n:Nat}(a:n<4294967296):nZ (tj n)=some (n:Int):=by
 unfold nZ fpF;rw[a6k a,gc Oc];unfold sj;rw[(a3M (u:=n/16777216) M0).1];dsimp only;rw[gc M0];unfold sj;rw[(a3M (u:=n/65536%256) M0).1];dsimp only;rw[gc M0];unfold sj;rw[(a3M (u:=n/256%256) M0).1];dsimp only;rw[gc M0];unfold sj;rw[(a3M (u:=n%256) M0).1];dsimp only;simp only[room];rw[gc M0]
 congr 1
 omega
theorem a6i{n:Nat}(hn:n<4294967296):∀y∈tj n,G y=46\/(48<=G y/\G y<=57):=by
 intro y hy;unfold tj at hy;have e:G 46=46:=P8;simp only[bO,dS]at hy;rcases hy with(((((h|rfl)|h)|rfl)|h)|rfl)|h
 ·exact .inr ((a3M M0).2.2.2 y h)
 ·exact .inl e
 ·exact .inr ((a3M M0).2.2.2 y h)
 ·exact .inl e
 ·exact .inr ((a3M M0).2.2.2 y h)
 ·exact .inl e
 exact .inr ((a3M M0).2.2.2 y h)
theorem a9k(n:Nat):tj n ≠ []:=by
 unfold tj;simp
theorem b1w{n:Nat}(a:n<4294967296):nw (tj n)=some (tj n):=by
 refine b1f λp hp=>?_;rw[<-BT,a7G a]at hp;simp only[aK,cV,or_false]at hp;rcases hp with rfl|rfl|rfl|rfl <;>exact b1b M0
theorem a67:∀{l:O},(∀y∈l,G y≠37)->nJ l=l
 | [],_=>rfl
 | [c],_=>rfl
 | [c,x],_=>rfl
 |c::x::y::t,h=>by
  rw[nJ,gc (λa=>h c Oc a.1),a67 (λz d=>h z (by simp only[aK]at d⊢;exact .inr d))]
theorem Az{set:Int}{l:O}(h:∀y∈l,k6 set (G y)=false):dD set l=l:=by
 induction l with
 |nil=>rfl
 |cons x r a =>
  have e:dD set (x::r)=xq set x++dD set r:=by unfold dD;simp
  rw[e,a (λy hy=>h y (by simp[hy]))];unfold xq;rw[gc (by rw[h x Oc];simp)];rfl
theorem in0(c:Int):k6 0 c=jU c:=by
 unfold k6;rw[gc M0];have:pJ 0=[]:=by unfold pJ;simp
 rw[this];unfold iO;simp
theorem b1Y:∀k:Fin 256,(xq 0 (UInt8.ofNat k.val)).all (λy=>decide (31<G y/\G y<=126)&&(np (G (UInt8.ofNat k.val)) || !np (G y)))=true:=by decide +kernel
theorem b3n{l:O}{y:UInt8}(h:y∈dD 0 l):(31<G y/\G y<=126)/\∃x∈l,np (G x)=true\/np (G y)=false:=by
 obtain⟨x,X,hy⟩:=S8.mp h;have a:=b1Y ⟨x.toNat,x.toNat_lt⟩;simp only[dN]at a;have:=dl.mp a y hy;rw[f8,kj]at this;refine⟨of_decide_eq_true this.1,x,X,?_⟩;rcases this.2 with h|h
 ·exact .inl h
 exact .inr (by simpa using h)
theorem b2W{l:O}(h:l ≠ []):dD 0 l ≠ []:=by
 cases l with
 |nil=>exact absurd rfl h
 |cons x r =>
  have e:dD 0 (x::r)=xq 0 x++dD 0 r:=by unfold dD;simp
  rw[e];unfold xq
  split <;>simp
inductive sS (s:O) (sp:Bool):gF->Prop where
 |six (a:List Int) (h8:a.length=8) (ha:∀n∈a,0<=n/\n<65536) (hs:s.head? = some 91):sS s sp {H0 with kind:=4,six:=a}
 |name (n:O) (e:sp=true) (hs:s.head? ≠ some 91) (hd:nw (nJ s)=some n) (hn:n ≠ []) (U:∀y∈n,Jr (G y)=false) (he:yo n=false):sS s sp {H0 with kind:=2,name:=n}
 |four (n:Nat) (e:sp=true) (hs:s.head? ≠ some 91) (h:n<4294967296):sS s sp {H0 with kind:=3,four:=n}
 |empty (e:sp=false) (h:s=[]):sS s sp {H0 with kind:=1}
 |a0z (e:sp=false) (hs:s.head? ≠ some 91) (h:s ≠ []) (U:∀y∈s,np (G y)=false):sS s sp {H0 with kind:=5,name:=dD 0 s}
theorem NK{α:Type}{f:α->Bool}{l:List α}(h:¬l.any f=true):∀y∈l,f y=false:=by
 have I:l.any f=false:=by simpa using h
 intro y hy;have:=M6.mp I y hy
 simpa using this
theorem hkind{s:O}{sp:Bool}{h:gF}(e:fm s sp=some h):sS s sp h:=by
 unfold fm at e;by_cases Y:s.head? = some 91
 ·rw[ge Y]at e
  unfold Xu at e
  split at e
  ·cases d:pK (Lib.trimSuffix (s.drop 1) [93])with
   |none=>rw[d]at e;cases e
   |some a =>
    rw[d]at e;injection e with e
    subst e;exact .six a (mT d).1 (mT d).2 Y
  cases e
 rw[gc Y]at e;cases sp with
 |true =>
  rw[ge rfl]at e;unfold XX at e;cases hd:nw (nJ s)with
  |none=>rw[hd]at e;cases e
  |some n =>
   rw[hd]at e;dsimp only at e
   split at e
   ·cases e
   next c =>
   split at e
   ·cases e
   next U =>
   split at e
   ·next he =>
    cases f:nZ n with
    |none=>rw[f]at e;cases e
    |some v =>
     rw[f]at e;injection e with e
     subst e;have hv:=Aa f;obtain⟨m,hm⟩:∃m:Nat,v=m:=⟨v.toNat,M0⟩;subst hm;exact .four m rfl Y M0
   next he =>
   injection e with e
   subst e;exact .name n rfl Y hd c (NK U) (by simpa using he)
 |false =>
  rw[gc Oc]at e
  split at e
  ·next c =>
   injection e with e
   subst e;exact .empty rfl c
  next c =>
  split at e
  ·cases e
  next U =>
  injection e with e
  subst e;exact .a0z rfl Y c (NK U)
theorem a8b(q:O)(x:UInt8):Lib.hasSuffix (q++[x]) [93]=decide (x=93):=by
 unfold Lib.hasSuffix;rw[bX,a9b,gx];constructor
 ·rintro⟨t,h⟩
  have:=b03 h rfl;injection this.2 with Y
  exact Y.symm
 rintro rfl;exact⟨q,rfl⟩
theorem b00(q:O):Lib.trimSuffix (q++[93]) [93]=q:=by
 unfold Lib.trimSuffix;rw[a8b,ge Oc];simp
theorem b2q{a:List Int}(c:a.length=8)(d:∀n∈a,0<=n/\n<65536)(sp:Bool):fm ([91]++uc a++[93]) sp=some {H0 with kind:=4,six:=a}:=by
 unfold fm;rw[ge r5];show Xu (uc a++[93])=_;unfold Xu;rw[a8b,ge Oc,b00,b11 a c d]
theorem a65{n:O}(h:∀y∈n,np (G y)=false):n.head? ≠ some 91:=by
 intro e;cases n with
 |nil=>cases e
 |cons x r =>
  injection e with e
  have:=h x Oc;rw[e]at this;revert this;decide
theorem a55{c:Int}(h:Jr c=false):np c=false/\¬(c<32\/c=37\/c=127):=by
 unfold Jr at h;rw[Bc]at h;exact⟨h.1,of_decide_eq_false h.2⟩
theorem a6H{c:Int}(h:np c=false):c≠32:=λe=>by rw[e]at h;revert h;decide
theorem b1e{c:Int}(h:c=46\/(48<=c/\c<=57)):Jr c=false:=by
 unfold Jr np;rw[Bc];exact⟨gh M0,gh M0⟩
theorem a62{α:Type}{f:α->Bool}{l:List α}(h:∀y∈l,f y=false):¬l.any f=true:=by
 rw[m8];rintro⟨x,X,e⟩;rw[h x X]at e;cases e
theorem b0O{n:O}{b:O}(hd:nw b=some n)(a:n ≠ [])(U:∀y∈n,Jr (G y)=false)(he:yo n=false):fm n true=some {H0 with kind:=2,name:=n}:=by
 unfold fm;rw[gc (a65 λy hy=>(a55 (U y hy)).1),ge rfl];unfold XX;rw[a67 (λy hy e=>(a55 (U y hy)).2 M0),(a7z hd).2];dsimp only;rw[gc a,gc (a62 U),gc (by simp[he])]
theorem a8C{n:Nat}(h:n<4294967296):fm (tj n) true=some {H0 with kind:=3,four:=n}:=by
 have U:∀y∈tj n,Jr (G y)=false:=λy hy=>b1e (a6i h y hy);unfold fm;rw[gc (a65 λy hy=>(a55 (U y hy)).1),ge rfl];unfold XX;rw[a67 (λy hy e=>(a55 (U y hy)).2 M0),b1w h];dsimp only;rw[gc (a9k n),gc (a62 U),ge (b0F h),b0E h]
theorem b2D{s:O}(h:s ≠ [])(U:∀y∈s,np (G y)=false):fm s false=some {H0 with kind:=5,name:=dD 0 s}:=by
 unfold fm;rw[gc (a65 U),gc Oc,gc h,gc (a62 U)]
theorem b0P{s:O}(h:s ≠ [])(U:∀y∈s,np (G y)=false)(a:∀y∈s,31<G y/\G y<=126):fm s false=some {H0 with kind:=5,name:=s}:=by
 rw[b2D h U,Az];intro y hy;rw[in0];unfold jU;have:=a y hy;exact gh M0
theorem a50(h:gF)(a:h.kind=4):lJ h=[91]++uc h.six++[93]:=by
 unfold lJ;rw[gc M0,gc M0,ge a]
theorem a3P{s:O}{sp:Bool}{h:gF}(e:fm s sp=some h):fm (lJ h) sp=some h/\(h.kind≠4->∀y∈lJ h,32<G y/\G y<=126/\np (G y)=false)/\(lJ h=[] ↔ h.kind=1):=by
 cases hkind e with
 |six a j k f =>
  have c:lJ {H0 with kind:=4,six:=a}=[91]++uc a++[93]:=rfl;rw[c];exact⟨b2q j k sp,λh=>absurd rfl h,Oc⟩
 |name n es f hd g U he =>
  subst es;have c:lJ {H0 with kind:=2,name:=n}=n:=rfl;rw[c];refine⟨b0O hd g U he,λ_ y hy=>?_,by simp[g]⟩;have Y:=a55 (U y hy);have I:=(a7z hd).1 y hy;have i:=a6H Y.1;exact⟨M0,M0,Y.1⟩
 |four n es f h =>
  subst es;have c:lJ {H0 with kind:=3,four:=(n:Int)}=tj n:=rfl;rw[c];refine⟨a8C h,λ_ y hy=>?_,by simp[a9k n]⟩;have:=a6i h y hy;exact⟨M0,M0,(a55 (b1e this)).1⟩
 |empty es f =>
  subst es;have c:lJ {H0 with kind:=1}=[]:=rfl;rw[c];refine⟨rfl,λ_ y hy=>(by cases hy),Oc⟩
 |a0z es f h U =>
  subst es;have c:lJ {H0 with kind:=5,name:=dD 0 s}=dD 0 s:=rfl;rw[c]
  have d:∀y∈dD 0 s,(31<G y/\G y<=126)/\np (G y)=false:=λy hy=>by
   obtain⟨Y,x,X,I⟩:=b3n hy;refine⟨Y,?_⟩;rcases I with I|I
   ·rw[U x X]at I;cases I
   exact I
  refine⟨b0P (b2W h) (λy hy=>(d y hy).2) (λy hy=>(d y hy).1),λ_ y hy=>?_,by simp[b2W h]⟩;obtain⟨Y,I⟩:=d y hy;have i:=a6H I;exact⟨M0,Y.2,I⟩

abbrev aT(h:gF):Array Z:=(aS h).toArray
theorem A7(w:H):(Instr.alloc 32 true (Value.tuple #[])).run prog w=.ok (.pointer (some ⟨w.heap.size,0,none⟩)) (w.alloc (.cells (aT H0) 32)):=Rz
theorem a3g:∀w,(Instr.build 32 #[(0,.int .i64 1)]).run prog w=.ok (.agg (aT {H0 with kind:=1})) w:=λw=>Rz
theorem a3h(n:O):∀w,(Instr.build 32 #[(0,.int .i64 2),(1,.string (E n))]).run prog w=.ok (.agg (aT {H0 with kind:=2,name:=n})) w:=λw=>Rz
theorem a3k(n:O):∀w,(Instr.build 32 #[(0,.int .i64 5),(1,.string (E n))]).run prog w=.ok (.agg (aT {H0 with kind:=5,name:=n})) w:=λw=>Rz
theorem a3i(v:Int):∀w,(Instr.build 32 #[(0,.int .i64 3),(2,.int .u32 v)]).run prog w=.ok (.agg (aT {H0 with kind:=3,four:=v})) w:=λw=>Rz
theorem a3j(a:List Int)(h:a.length=8):∀w,(Instr.build 32 #[(0,.int .i64 4),(3,.agg (dz a).toArray)]).run prog w=.ok (.agg (aT {H0 with kind:=4,six:=a})) w:=λw=>by
 obtain⟨a,b,c,d,e,f,g,i,rfl⟩:=eight h
 kernel_rfl
theorem hsize(h:gF)(a:h.six.length=8):(prog.info? 32).map (·.size)=some (aT h).size:=by
 rw[jb];simp[aS,a]
theorem XL(h:gF):(aT h).all (·.oneCell')=true:=by
 rw[Array.all_eq_true];intro i hi;have hm:(aT h)[i]∈aS h:=Oc;simp only[aS,aK,dt]at hm;rcases hm with e|e|e|⟨_,_,e⟩ <;>first|(rw[e];rfl)|(rw[<-e];rfl)
structure Bz (w:H) (b:Nat) (h:gF) (wr:H):Prop where
 a:wr.heap[b]?= some (.cells (aT h) 32 (0,0))
 l:h.six.length=8
 bL:r7 w wr
theorem Bz.lt{w:H}{b:Nat}{h:gF}(i:Bz w b h wr):b<wr.heap.size:=(bw.1 i.a).1
theorem Bz.below{w:H}{b:Nat}{h:gF}(i:Bz w b h wr)(U:w.heap.size<=b)(I:r7 wr w2):Bz w b h w2:=by
 have:=i.lt;exact⟨(I.block b M0).trans i.a,i.l,i.bL.trans (I.m M0)⟩
theorem Bz.alloc{w:H}{b:Nat}{h:gF}(i:Bz w b h wr)(o:Obj)(U:w.heap.size<=b):Bz w b h (wr.alloc o):=i.below U ((gT _ wr).alloc (ag _) o)
theorem Bz.put{w:H}{b:Nat}{h g:gF}(i:Bz w b h wr)(U:w.heap.size<=b)(c:g.six.length=8):Bz w b g (wr.setRow b (aT g)) :=
 ⟨setRow_heap wr b _ _ _ _ i.a,c,below_setRow i.bL U _⟩
theorem sq(w:H):Bz w w.heap.size H0 (w.alloc (.cells (aT H0) 32)):=⟨jp w _,rfl,(gT _ w).alloc (ag _) _⟩
abbrev yC(o:Option gF):Ending:=.returned (.tuple #[.agg (aT (o.getD H0)),.bool o.isSome])
theorem oT(w:H)(b:Nat)(h:gF)(i:w.heap[b]?= some (.cells (aT h) 32 (0,0)))(a:h.six.length=8):(loadVar 32 ⟨b,0,none⟩).run prog w=.ok (.agg (aT h)) w :=
 run_loadVar_row (P:=prog) w b 32 32 (aT h) (0,0) _ i underlying32 rfl (hsize h a)
theorem b6a{rest:List Oper}{o:Oper}{a:Act}{w:H}{Q:Exit->Act->H->Prop}(c:o.guard=none)(x y:Operand)(f:o.op=.store 32 x y)
  (w0:H) (b:Nat) (h g:gF) (i:Bz w0 b h w) (U:w0.heap.size<=b) (d:g.six.length=8) (X:a.eval x=.pointer (some ⟨b,0,none⟩)) (hy:a.eval y=.agg (aT g))
  (k:∀e,Bz w0 b g e->wpList prog ops Q rest (a.put o.dst undef) e):wpList prog ops Q (o::rest) a w:=by
 refine wpList_store_row c _ x y f b (aT g) X hy _ _ i.a (hsize g d) ?_ (XL g) (k _ (i.put U d));simp[aS,i.l,d]
theorem zR{rest:List Oper}{o:Oper}{a:Act}{w:H}{Q:Exit->Act->H->Prop}(e:o.guard=none)(i j:Nat)(x y:Operand)(f:o.op=.build 32 #[(i,x),(j,y)])
  (c d v:Z) (X:a.eval x=c) (hy:a.eval y=d) (g:∀w,(Instr.build 32 #[(i,c),(j,d)]).run prog w=.ok v w) (k:wpList prog ops Q rest (a.put o.dst v) w):wpList prog ops Q (o::rest) a w:=by
 refine bR e _ _ f v #[(i,c),(j,d)] ?_ g k;subst X;subst hy;simp
theorem Zg{rest:List Oper}{o:Oper}{a:Act}{w:H}{Q:Exit->Act->H->Prop}(d:o.guard=none)(i:Nat)(x:Operand)(e:o.op=.build 32 #[(i,x)])
  (c v:Z) (X:a.eval x=c) (f:∀w,(Instr.build 32 #[(i,c)]).run prog w=.ok v w) (k:wpList prog ops Q rest (a.put o.dst v) w):wpList prog ops Q (o::rest) a w:=by
 refine bR d _ _ e v #[(i,c)] ?_ f k;subst X;simp
theorem zU(l m:O)(w:H)(hl:l.length<=1024000000):bP prog 171 #[.string (E l),.string (E m)] w (.tuple #[S (Lib.trimSuffix l m),.bool (Lib.hasSuffix l m)]):=by
 have h:=Any.strings_CutSuffix laysCutS (E l) (E m) w (by rw[aF];omega);rw[show(E l).data.toList=l from cW l,show(E m).data.toList=m from cW m]at h;exact h
theorem DZ(l m:O):(Lib.trimSuffix l m).length<=l.length:=by
 unfold Lib.trimSuffix
 split
 ·rw[aD];omega
 exact ag _
theorem Ze{tmps:Array Z}{w:H}{b:Nat}{h:gF}{q:Bool}(I:tmps.getD 2 undef=.pointer (some ⟨b,0,none⟩))(f:tmps.getD 3 undef=.bool q)(i:Bz w b h w2)(g:h=R.getD H0)(k:q=R.isSome) :
  bodyPost prog f227 (λe m=>e=yC R/\r7 w m) Exit.ret {tmps:=tmps,defers:=[]} w2:=by
 have c:tmps[2]?.getD undef=.pointer (some ⟨b,0,none⟩):=by simpa using I
 have d:tmps[3]?.getD undef=.bool q:=by simpa using f
 have j:=oT w2 b h i.a i.l;refine bodyPost_ret (v:=.tuple #[.agg (aT h),.bool q]) ?_ rfl ⟨by rw[g,k],i.bL⟩;simp[results,results227,asAddr,c,d,j]
theorem xD(l:O)(w:H)(hl:l.length<=1024000000)(hE:Env w):Calls prog 227 #[.string (E l)] w λe C=>e=yC (Xu l)/\r7 w C:=by
 have f:=λW=>zU l [93] W hl;rw[show E [93]=⟨#[93]⟩from rfl]at f;have Q:=DZ l [93];have c:=λW (h:r7 w W)=>AS (Lib.trimSuffix l [93]) W M0 (hE.below h);obtain⟨R,d⟩:=V (Xu l);rw[<-d];unfold Xu at d;have j:=λa (h:pK (Lib.trimSuffix l [93])=some a)=>(mT h).1;obtain⟨T,hT⟩:=V (Lib.trimSuffix l [93]);rw[<-hT]at f c d j;generalize Lib.hasSuffix l [93]=q at f d;clear hT Q hE;generalize E l=s at f⊢;clear hl;have xL:=F f;clear f;have y:=F<|sq w;cases q with
 |false =>
  rw[gc Oc]at d;have p:=F d;clear d c j;go_enter func227,ntmps227
  go_wp2_with(first|(refine aM rfl 32 rfl _ _ (A7 _) ?_)|(go_at_call 171;refine(xL.o _).e ?_)|(refine b6a rfl 2 15 rfl w w.heap.size _ H0 y.o (ag _) rfl rfl rfl ?_;intro w3 i3;have g:=F i3;clear i3))
  exact Ze rfl rfl g.o (by rw[p.o];rfl) (by rw[p.o];rfl)
 |true =>
  rw[ge rfl]at d;cases D:pK T with
  |none =>
   rw[D]at d c
   change ∀W,r7 w W->Calls _ _ _ W λe C=>e=.returned (.tuple #[.agg (dz Z8).toArray,.bool false])/\r7 W C at c
   have p:=F d;clear d j D;have J:=F c;clear c;go_enter func227,ntmps227
   go_wp2_with(first|(refine aM rfl 32 rfl _ _ (A7 _) ?_)|(go_at_call 171;refine(xL.o _).e ?_)|(go_at_call 236;refine(J.o _ y.o.bL).k λw2 i=>?_;have r:=F<|y.o.below (ag _) i.o;clear i)|(refine aM rfl 30 rfl _ _ (qu _) ?_)|(refine gy rfl 30 6 19 rfl (dz Z8).toArray (dz Z8).toArray _ rfl rfl (by rw[oD];rfl) rfl (Gz _) ?_;have g:=F<|r.o.alloc (.cells (dz Z8).toArray 30) (ag _))|(refine b6a rfl 2 23 rfl w w.heap.size _ H0 g.o (ag _) rfl rfl rfl ?_;intro w4 i4;have t:=F i4;clear i4))
   exact Ze rfl rfl t.o (by rw[p.o];rfl) (by rw[p.o];rfl)
  |some a =>
   rw[D]at d c
   change ∀W,r7 w W->Calls _ _ _ W λe C=>e=.returned (.tuple #[.agg (dz a).toArray,.bool true])/\r7 W C at c
   have L:=j a D;have M:=F L;have u:=a3j a L;obtain⟨v,K⟩:∃v:gF,v={H0 with kind:=4,six:=a}:=⟨_,rfl⟩;have z:v.six.length=8:=by rw[K];exact L
   replace d:R=some v:=by rw[d,K]
   rw[<-K]at u;clear K;have Tx:=F z;clear z;have lZ:=F u;clear u;have p:=F d;clear d j D L;have J:=F c;clear c;obtain⟨x,n⟩:=V ((dz a).toArray);rw[<-n]at J lZ;have P:x.size=8:=by rw[n];simp[M.o]
   have B:x.all (·.oneCell')=true:=by rw[n];exact Gz a
   clear n;have N:=F B;clear B;go_enter func227,ntmps227
   go_wp2_with(first|(refine aM rfl 32 rfl _ _ (A7 _) ?_)|(go_at_call 171;refine(xL.o _).e ?_)|(go_at_call 236;refine(J.o _ y.o.bL).k λw2 i=>?_;have r:=F<|y.o.below (ag _) i.o;clear i)|(refine aM rfl 30 rfl _ _ (qu _) ?_)|(refine gy rfl 30 6 19 rfl x (dz Z8).toArray _ rfl rfl (by rw[oD,P]) (by rw[P];rfl) N.o ?_;have g:=F<|r.o.alloc (.cells x 30) (ag _))|(refine vS rfl 30 6 rfl x _ rfl _ underlying30 rfl (by rw[oD,P]) ?_)|(refine zR rfl 0 3 (.const (.int .i64 4)) 24 rfl (.int .i64 4) (.agg x) (.agg (aT v)) rfl rfl lZ.o ?_)|(refine b6a rfl 2 25 rfl w w.heap.size _ v g.o (ag _) Tx.o rfl rfl ?_;intro w4 i4;have t:=F i4;clear i4))
   exact Ze rfl rfl t.o (by rw[p.o];rfl) (by rw[p.o];rfl)

theorem Av{tmps:Array Z}{w:H}{b:Nat}{h:gF}{q:Bool}(I:tmps.getD 2 undef=.pointer (some ⟨b,0,none⟩))(f:tmps.getD 3 undef=.bool q)(i:Bz w b h w2)(g:h=R.getD H0)(k:q=R.isSome) :
  bodyPost prog f228 (λe m=>e=yC R/\r7 w m) Exit.ret {tmps:=tmps,defers:=[]} w2:=by
 have c:tmps[2]?.getD undef=.pointer (some ⟨b,0,none⟩):=by simpa using I
 have d:tmps[3]?.getD undef=.bool q:=by simpa using f
 have j:=oT w2 b h i.a i.l;refine bodyPost_ret (v:=.tuple #[.agg (aT h),.bool q]) ?_ rfl ⟨by rw[g,k],i.bL⟩;simp[results,results228,asAddr,c,d,j]
theorem rf:∀(n:Nat) (l:O),l.length<=n->(nJ l).length<=l.length
 |0,l,h=>by
  obtain rfl:l=[]:=az M0;simp[nJ]
 |n+1,[],_=>by simp[nJ]
 |n+1,[c],_=>by simp[nJ]
 |n+1,[c,x],_=>by simp[nJ]
 |n+1,c::x::y::t,h=>by
  rw[nJ]
  split
  ·have:=rf n t (by simp at h;omega)
   simp;omega
  have:=rf n (x::y::t) (by simp at h⊢;omega);simp at this⊢;omega
theorem LN(l:O)(w:H)(hl:l.length<=307200000)(ht:(fq (signs (nJ l))).length<=102400000)(hn:∀n,nw (nJ l)=some n->n.length<=102400000)(hE:Env w) :
  Calls prog 228 #[.string (E l)] w λe w'=>e=yC (XX l)/\r7 w w':=by
 have hpd:=λW=>Dl l W M0;have hpl:=rf _ l (ag _);have PQ:=λW (h:r7 w W)=>Fp (nJ l) W M0 ht (hE.below h);obtain⟨R,C⟩:=V (XX l);rw[<-C];unfold XX at C;generalize nJ l=D at hpd PQ C hn;clear hpl ht hl;generalize E l=s at hpd⊢;have HPD:=F hpd;clear hpd;have SW:=F hE;clear hE;have HI:=F<|sq w;cases hd:nw D with
 |none =>
  rw[hd]at C PQ;have t:=fo (R=none) C;clear C hn hd
  change ∀W,r7 w W->Calls _ _ _ W λe w'=>e=.returned (.tuple #[S [],.bool false])/\r7 W w' at PQ
  have HDM:=F PQ;clear PQ;go_enter func228,ntmps228
  go_wp2_with(first|(refine aM rfl 32 rfl _ _ (A7 _) ?_)|(go_at_call 238;refine(HPD.o _).m ?_;rintro e w2⟨v,rfl,B,c⟩;have PZ:=F<|jq (P:=prog) (src:=25) (dst:=9) underlying25 underlying5 underlying9 B;have hcv:=PZ.o;clear B;have y:=F<|HI.o.below (ag _) c;clear c)|(go_at_call 237;refine(HDM.o _ y.o.bL).k λw3 d=>?_;have a:=F<|y.o.below (ag _) d.o;clear d)|(refine b6a rfl 2 22 rfl w w.heap.size _ H0 a.o (ag _) rfl rfl rfl ?_;intro w4 i4;have g:=F i4;clear i4))
  exact Av rfl rfl g.o (by rw[t.o];rfl) (by rw[t.o];rfl)
 |some n =>
  rw[hd]at C PQ;have hnm:=hn n hd;replace C:R=if n=[]then none else if n.any (λx=>Jr (G x))=true then none else if yo n=true then(match nZ n with|none=>none|some v=>some {H0 with kind:=3,four:=v})else some {H0 with kind:=2,name:=n}:=C;have hen:=λW (h:r7 w W)=>OY n W hnm (SW.o.below h);have hfp:=λW (h:r7 w W)=>FL n W hnm (SW.o.below h);have hyes:∀k (hk:k<n.length),Jr (G n[k])=true->(n.any λx=>Jr (G x))=true:=λk hk h=>Ib (f:=λx=>Jr (G x)) hk h;have hno:(∀k (hk:k<n.length),Jr (G n[k])=false)->(n.any λx=>Jr (G x))=false:=λh=>NJ (f:=λx=>Jr (G x)) h;have c:=a3h n;obtain⟨G2,hG2⟩:∃G':gF,G'={H0 with kind:=2,name:=n}:=⟨_,rfl⟩;have ZD:G2.six.length=8:=by rw[hG2];rfl
  rw[<-hG2]at c C;clear hG2;obtain⟨u,hu⟩:=V (E n)
  change ∀W,r7 w W->Calls _ _ _ W λe w'=>e=.returned (.tuple #[.string (E n),.bool true])/\r7 W w' at PQ
  rw[<-hu]at PQ hen hfp c;have hsz:u.size=n.length:=by rw[hu,aF]
  have hby:∀k (hk:k<u.size) (hk2:k<n.length),((u[k]'hk).toNat:Int)=G n[k]:=λk hk hk2=>cy hu hk hk2;have hue:(u.toList=[]) ↔ n=[]:=by rw[hu,aB]
  clear hu hn hd;have HDM:=F PQ;clear PQ;by_cases hnil:n=[]
  ·rw[ge hnil]at C
   have he2:=hue.mpr hnil;have he:u.toList.isEmpty=true:=by rw[he2];rfl
   have t:=F C;clear C hen hfp hyes hno c hby hue hnil hsz ZD;go_enter func228,ntmps228
   go_wp2_with(first|(refine aM rfl 32 rfl _ _ (A7 _) ?_)|(go_at_call 238;refine(HPD.o _).m ?_;rintro e w2⟨v,rfl,B,c⟩;have PZ:=F<|jq (P:=prog) (src:=25) (dst:=9) underlying25 underlying5 underlying9 B;have hcv:=PZ.o;clear B;have y:=F<|HI.o.below (ag _) c;clear c)|(go_at_call 237;refine(HDM.o _ y.o.bL).k λw3 d=>?_;have a:=F<|y.o.below (ag _) d.o;clear d)|(refine b6a rfl 2 22 rfl w w.heap.size _ H0 a.o (ag _) rfl rfl rfl ?_;intro w4 i4;have g:=F i4;clear i4))
   exact Av rfl rfl g.o (by rw[t.o];rfl) (by rw[t.o];rfl)
  rw[gc hnil]at C;have he2:¬u.toList=[]:=λh=>hnil (hue.mp h);have he:u.toList.isEmpty=false:=by simpa using he2
  obtain⟨N,hN⟩:=V (u.size);have iP:u.size=N:=hN.symm;have oP:N<=102400000:=M0;have eM:=F (show N=n.length by omega);clear hN hsz hnm hue hnil;have iV:=F hby;clear hby;have kP:=F hyes;clear hyes;have px:=F hno;clear hno;have t:=F C;clear C;have zC:=F hen;clear hen;have WW:=F hfp;clear hfp;have HB2:=F c;clear c;have a7s:=F ZD;clear ZD;go_enter func228,ntmps228
  go_wp2_with(first|(refine aM rfl 32 rfl _ _ (A7 _) ?_)|(go_at_call 238;refine(HPD.o _).m ?_;rintro e w2⟨v,rfl,B,c⟩;have PZ:=F<|jq (P:=prog) (src:=25) (dst:=9) underlying25 underlying5 underlying9 B;have hcv:=PZ.o;clear B;have y:=F<|HI.o.below (ag _) c;clear c)|(go_at_call 237;refine(HDM.o _ y.o.bL).k λw3 d=>?_;have a:=F<|y.o.below (ag _) d.o;clear d))
  go_loopw [25] (λiv wr=>∃k:Nat,k<=N/\iv=.int .i64 k/\Hid (∀j (hj:j<n.length),j<k->Jr (G n[j])=false)/\w3=wr) (λi _=>N-(intOf i).toNat)
  exact⟨0,aL _,Oc,λj _ h=>absurd h (cL j),rfl⟩
  obtain⟨k,hk,rfl,hall,rfl⟩:=hrel;by_cases hlt:k<N
  ·have mf:k<u.size:=by rw[iP];exact hlt
   have hkl:k<n.length:=by have:=eM.o;omega
   have X:=iV.o k mf hkl;have hy:Jr (G n[k])=true->R=none:=λh=>by rw[t.o,ge (kP.o k hkl h)]
   have p:Jr (G n[k])=false->∀j (hj:j<n.length),j<k+1->Jr (G n[j])=false:=λh j hj Y=>by
    rcases cI j k with I|I
    ·exact hall.o j hj I
    obtain rfl:j=k:=M0;exact h
   have hbd:=λW=>Im (G n[k]) W;generalize G n[k]=Q at X hy p hbd;have pN:=F hbd;clear hbd hall;have hdef:Jr Q=(np Q||decide (Q<32\/Q=37\/Q=127)):=rfl;rw[hdef]at hy p;clear hdef;obtain⟨q,HQ⟩:=ey (np Q);rw[<-HQ.o]at hy p pN;cases q with
   |true =>
    have M:=F<|hy rfl;clear hy p
    go_wp2_with(first|(go_at_call 229;refine(pN.o _).e ?_)|(refine b6a rfl 2 45 rfl w w.heap.size _ H0 a.o (ag _) rfl rfl rfl ?_;intro w5 i5;have K:=F i5;clear i5))
    exact Av rfl rfl K.o (by rw[M.o];rfl) (by rw[M.o];rfl)
   |false =>
    by_cases Y:Q<32
    ·have M:=F<|hy (by simp[Y]);clear hy p
     go_wp2_with(first|(go_at_call 229;refine(pN.o _).e ?_)|(refine b6a rfl 2 45 rfl w w.heap.size _ H0 a.o (ag _) rfl rfl rfl ?_;intro w5 i5;have K:=F i5;clear i5))
     exact Av rfl rfl K.o (by rw[M.o];rfl) (by rw[M.o];rfl)
    by_cases I:Q=37
    ·have M:=F<|hy (by simp[I]);clear hy p
     subst I
     go_wp2_with(first|(go_at_call 229;refine(pN.o _).e ?_)|(refine b6a rfl 2 45 rfl w w.heap.size _ H0 a.o (ag _) rfl rfl rfl ?_;intro w5 i5;have K:=F i5;clear i5))
     exact Av rfl rfl K.o (by rw[M.o];rfl) (by rw[M.o];rfl)
    have q2:(Q==37)=false:=by simpa using I
    by_cases h3:Q=127
    ·have M:=F<|hy (by simp[h3]);clear hy p
     subst h3
     go_wp2_with(first|(go_at_call 229;refine(pN.o _).e ?_)|(refine b6a rfl 2 45 rfl w w.heap.size _ H0 a.o (ag _) rfl rfl rfl ?_;intro w5 i5;have K:=F i5;clear i5))
     exact Av rfl rfl K.o (by rw[M.o];rfl) (by rw[M.o];rfl)
    have q3:(Q==127)=false:=by simpa using h3
    have HS:=F<|p (by simp[Y,I,h3]);clear hy p
    go_wp2_with(go_at_call 229;refine(pN.o _).e ?_)
    go_roundw
    exact⟨k+1,M0,Oc,HS.o,by trivial⟩
    exact aa
  obtain rfl:k=N:=M0;have L:=t.o;rw[gc (by rw[px.o (λj hj=>hall.o j hj (by have:=eM.o;omega))];simp)]at L;clear t;cases J:yo n with
  |false =>
   rw[J,gc Oc]at L;rw[J]at zC;have t:=F L;clear L J hall
   go_wp2_with(first|(go_at_call 239;refine(zC.o _ a.o.bL).k λw4 z=>?_;have g:=F<|a.o.below (ag _) z.o;clear z)|(refine zR rfl 0 1 (.const (.int .i64 2)) 50 rfl (.int .i64 2) (.string u) (.agg (aT G2)) rfl rfl HB2.o ?_)|(refine b6a rfl 2 51 rfl w w.heap.size _ G2 g.o (ag _) a7s.o rfl rfl ?_;intro w5 i5;have K:=F i5;clear i5))
   exact Av rfl rfl K.o (by rw[t.o];rfl) (by rw[t.o];rfl)
  |true =>
   rw[J,ge rfl]at L;rw[J]at zC;cases hfq:nZ n with
   |none =>
    rw[hfq]at L WW;have t:=fo (R=none) L;clear L J hall hfq;replace WW:=fo (∀W,r7 w W->bF prog 240 #[.string u] W (.tuple #[.int .u32 0,.bool false])) WW.o
    go_wp2_with(first|(go_at_call 239;refine(zC.o _ a.o.bL).k λw4 z=>?_;have g:=F<|a.o.below (ag _) z.o;clear z)|(go_at_call 240;refine(WW.o _ g.o.bL).k λw5 T=>?_;have K:=F<|g.o.below (ag _) T.o;clear T)|(refine b6a rfl 2 59 rfl w w.heap.size _ H0 K.o (ag _) rfl rfl rfl ?_;intro w6 i6;have HI6:=F i6;clear i6))
    exact Av rfl rfl HI6.o (by rw[t.o];rfl) (by rw[t.o];rfl)
   |some v =>
    rw[hfq]at L WW;have d:=a3i v;obtain⟨G3,hG3⟩:∃G':gF,G'={H0 with kind:=3,four:=v}:=⟨_,rfl⟩;have a3N:G3.six.length=8:=by rw[hG3];rfl
    replace L:R=some G3:=by rw[L,hG3]
    rw[<-hG3]at d;clear hG3;have HB3:=F d;clear d;have a7t:=F a3N;clear a3N;have t:=F L;clear L J hall hfq;replace WW:=fo (∀W,r7 w W->bF prog 240 #[.string u] W (.tuple #[.int .u32 v,.bool true])) WW.o
    go_wp2_with(first|(go_at_call 239;refine(zC.o _ a.o.bL).k λw4 z=>?_;have g:=F<|a.o.below (ag _) z.o;clear z)|(go_at_call 240;refine(WW.o _ g.o.bL).k λw5 T=>?_;have K:=F<|g.o.below (ag _) T.o;clear T)|(refine zR rfl 0 2 (.const (.int .i64 3)) 60 rfl (.int .i64 3) (.int .u32 v) (.agg (aT G3)) rfl rfl HB3.o ?_)|(refine b6a rfl 2 61 rfl w w.heap.size _ G3 K.o (ag _) a7t.o rfl rfl ?_;intro w6 i6;have HI6:=F i6;clear i6))
    exact Av rfl rfl HI6.o (by rw[t.o];rfl) (by rw[t.o];rfl)

theorem Rt{tmps:Array Z}{w:H}{b:Nat}{h:gF}{q:Bool}(I:tmps.getD 4 undef=.pointer (some ⟨b,0,none⟩))(f:tmps.getD 5 undef=.bool q)(i:Bz w b h w2)(g:h=R.getD H0)(k:q=R.isSome) :
  bodyPost prog f203 (λe m=>e=yC R/\r7 w m) Exit.ret {tmps:=tmps,defers:=[]} w2:=by
 have c:tmps[4]?.getD undef=.pointer (some ⟨b,0,none⟩):=by simpa using I
 have d:tmps[5]?.getD undef=.bool q:=by simpa using f
 have j:=oT w2 b h i.a i.l;refine bodyPost_ret (v:=.tuple #[.agg (aT h),.bool q]) ?_ rfl ⟨by rw[g,k],i.bL⟩;simp[results,results203,asAddr,c,d,j]
theorem Uk{s:O}:((Xu s).getD H0).six.length=8:=by
 unfold Xu
 split
 ·cases h:pK (Lib.trimSuffix s [93])with
  |none=>rfl
  |some a=>exact(mT h).1
 rfl
theorem VH{s:O}:((XX s).getD H0).six.length=8:=by
 unfold XX
 split
 ·rfl
 split
 ·rfl
 split
 ·rfl
 split
 ·split <;>rfl
 rfl
theorem a9R(l:O):Lib.hasPrefix l [91]=decide (l.head? = some 91):=by
 cases l with
 |nil=>rfl
 |cons x r =>
  show((91==x)&&true)=_;rw[nk,bX];simp only[beq_iff_eq,oI,ly,gx];exact eq_comm
structure Short (l:O):Prop where
 sl:l.length<=307200000
 st:(fq (signs (nJ l))).length<=102400000
 sn:∀n,nw (nJ l)=some n->n.length<=102400000
theorem DJ{l:O}(h:l.length<=1048576):Short l:=by
 have Y:=rf _ l (ag _);have I:=rx (signs (nJ l));have h3:=lR _ (nJ l) (ag _);exact⟨M0,M0,λn a=>by have:=Cg a;omega⟩
theorem vG(l:O)(sp:Bool)(w:H)(hS:Short l)(hE:Env w):Calls prog 203 #[.string (E l),.bool sp] w λe w'=>e=yC (fm l sp)/\r7 w w':=by
 obtain⟨hl,hst,g⟩:=hS;have T:=λW=>mE l [91] W;rw[show E [91]=⟨#[91]⟩from rfl,a9R]at T;have D:=λW (h:r7 w W)=>xD (l.drop 1) W (by rw[aj];omega) (hE.below h);have v:=λW (h:r7 w W)=>LN l W hl hst g (hE.below h);have y:=λW=>eT 0 l W M0;obtain⟨R,a⟩:=V (fm l sp);rw[<-a];unfold fm at a;have hyes:∀k (Q:k<l.length),np (G l[k])=true->(l.any λx=>np (G x))=true:=λk Q h=>Ib (f:=λx=>np (G x)) Q h;have K:(∀k (Q:k<l.length),np (G l[k])=false)->(l.any λx=>np (G x))=false:=λh=>NJ (f:=λx=>np (G x)) h;obtain⟨s,hs⟩:=V (E l);have hsz:s.size=l.length:=by rw[hs,aF]
 have J:∀k (Q:k<s.size) (hk2:k<l.length),((s[k]'Q).toNat:Int)=G l[k]:=λk Q hk2=>cy hs Q hk2;have z:(s.toList=[]) ↔ l=[]:=by rw[hs,aB]
 have hex:s.extract 1 s.size=E (l.drop 1):=by rw[hs,cd,aF,aP (by rw[aj];omega)]
 rw[<-hs]at T v y⊢;clear hs hst g hE;obtain⟨N,hN⟩:=V (s.size);have iP:s.size=N:=hN.symm;rw[iP]at hex;have oP:N<=307200000:=M0;have mc:N=l.length:=M0;clear hN hsz hl;have HI:=F<|sq w;by_cases ZB:l.head? = some 91
 ·rw[ge ZB]at a
  rw[gr ZB]at T
  have hN1:1<=N:=by
   cases l with
   |nil=>cases ZB
   |cons x r=>rw[mc];simp
  obtain⟨u,hu⟩:=V (E (l.drop 1));rw[<-hu]at hex D;have Tx:=F<|Uk (s:=l.drop 1);generalize Xu (l.drop 1)=B at a D Tx;clear hu ZB v y hyes K J z mc;obtain⟨L,M,q,t⟩:=ac (B.getD H0) (B.isSome);have HBR:=fo (∀W,r7 w W->bF prog 227 #[.string u] W (.tuple #[.agg (aT L),.bool q])) (by rw[M,t];exact D);rw[<-M]at Tx;have p:=F (show L=R.getD H0/\q=R.isSome by rw[a];exact⟨M,t⟩);have tS:=F T;clear T D a M t;go_enter func203,ntmps203
  go_wp2_with(first|(refine aM rfl 32 rfl _ _ (A7 _) ?_)|(go_at_call 83;refine(tS.o _).e ?_)|(go_at_call 227;refine(HBR.o _ HI.o.bL).k λw2 C=>?_;have HI2:=F<|HI.o.below (ag _) C.o;clear C)|(refine b6a rfl 4 12 rfl w w.heap.size _ L HI2.o (ag _) Tx.o rfl rfl ?_;intro w4 i4;have d:=F i4;clear i4))
  exact Rt rfl rfl d.o p.o.1 p.o.2
 rw[gc ZB]at a;rw[gh ZB]at T;have tS:=F T;clear T D hex ZB;cases sp with
 |true =>
  rw[ge rfl]at a;have Tx:=F<|VH (s:=l);generalize XX l=B at a v Tx;clear y hyes K J z mc;obtain⟨L,M,q,t⟩:=ac (B.getD H0) (B.isSome);have mX:=fo (∀W,r7 w W->bF prog 228 #[.string s] W (.tuple #[.agg (aT L),.bool q])) (by rw[M,t];exact v);rw[<-M]at Tx;have p:=F (show L=R.getD H0/\q=R.isSome by rw[a];exact⟨M,t⟩);clear v a M t;go_enter func203,ntmps203
  go_wp2_with(first|(refine aM rfl 32 rfl _ _ (A7 _) ?_)|(go_at_call 83;refine(tS.o _).e ?_)|(go_at_call 228;refine(mX.o _ HI.o.bL).k λw2 C=>?_;have HI2:=F<|HI.o.below (ag _) C.o;clear C)|(refine b6a rfl 4 17 rfl w w.heap.size _ L HI2.o (ag _) Tx.o rfl rfl ?_;intro w4 i4;have d:=F i4;clear i4))
  exact Rt rfl rfl d.o p.o.1 p.o.2
 |false =>
  rw[gc Oc]at a;clear v;by_cases hnil:l=[]
  ·rw[ge hnil]at a
   have he2:=z.mpr hnil;have he:s.toList.isEmpty=true:=by rw[he2];rfl
   have p:=F a;clear a y hyes K J z hnil mc;go_enter func203,ntmps203
   go_wp2_with(first|(refine aM rfl 32 rfl _ _ (A7 _) ?_)|(go_at_call 83;refine(tS.o _).e ?_)|(refine Zg rfl 0 (.const (.int .i64 1)) rfl (.int .i64 1) (.agg (aT {H0 with kind:=1})) rfl a3g ?_)|(refine b6a rfl 4 21 rfl w w.heap.size _ {H0 with kind:=1} HI.o (ag _) rfl rfl rfl ?_;intro w4 i4;have d:=F i4;clear i4))
   exact Rt rfl rfl d.o (by rw[p.o];rfl) (by rw[p.o];rfl)
  rw[gc hnil]at a;have he2:¬s.toList=[]:=λh=>hnil (z.mp h);have he:s.toList.isEmpty=false:=by simpa using he2
  have P:=a3k (dD 0 l);obtain⟨G5,hG5⟩:∃L:gF,L={H0 with kind:=5,name:=dD 0 l}:=⟨_,rfl⟩;have a3O:G5.six.length=8:=by rw[hG5];rfl
  rw[<-hG5]at P a;obtain⟨c,hc⟩:=V (E (dD 0 l));have HPE:=fo (∀W,bF prog 167 #[.string s,.int .i64 0] W (.string c)) (by rw[hc];exact y);rw[<-hc]at P;clear hG5 y hc z hnil;have eM:=F mc;clear mc;have iV:=F J;clear J;have kP:=F hyes;clear hyes;have px:=F K;clear K;have p:=F a;clear a;have gD:=F P;clear P;have a7v:=F a3O;clear a3O;go_enter func203,ntmps203
  go_wp2_with(first|(refine aM rfl 32 rfl _ _ (A7 _) ?_)|(go_at_call 83;refine(tS.o _).e ?_))
  go_loopw [24] (λiv wr=>∃k:Nat,k<=N/\iv=.int .i64 k/\Hid (∀j (hj:j<l.length),j<k->np (G l[j])=false)/\wr=w.alloc (.cells (aT H0) 32)) (λi _=>N-(intOf i).toNat)
  exact⟨0,aL _,Oc,λj _ h=>absurd h (cL j),rfl⟩
  obtain⟨k,Q,rfl,hall,rfl⟩:=hrel;by_cases hlt:k<N
  ·have mf:k<s.size:=by rw[iP];exact hlt
   have hkl:k<l.length:=by have:=eM.o;omega
   have X:=iV.o k mf hkl;have hy:np (G l[k])=true->R=none:=λh=>by rw[p.o,ge (kP.o k hkl h)]
   have g:np (G l[k])=false->∀j (hj:j<l.length),j<k+1->np (G l[j])=false:=λh j hj Y=>by
    rcases cI j k with I|I
    ·exact hall.o j hj I
    obtain rfl:j=k:=M0;exact h
   have hbd:=λW=>Im (G l[k]) W;generalize G l[k]=X' at X hy g hbd;have pN:=F hbd;clear hbd hall;cases t:np X' with
   |true =>
    have HF:=F<|hy t;rw[t]at pN;clear hy g t
    go_wp2_with(first|(go_at_call 229;refine(pN.o _).e ?_)|(refine b6a rfl 4 31 rfl w w.heap.size _ H0 HI.o (ag _) rfl rfl rfl ?_;intro w5 i5;have Bq:=F i5;clear i5))
    exact Rt rfl rfl Bq.o (by rw[HF.o];rfl) (by rw[HF.o];rfl)
   |false =>
    have HS:=F<|g t;rw[t]at pN;clear hy g t
    go_wp2_with(go_at_call 229;refine(pN.o _).e ?_)
    go_roundw
    exact⟨k+1,M0,Oc,HS.o,by first|rfl|trivial⟩
    exact aa
  obtain rfl:k=N:=M0;have hr:=p.o;rw[gc (by rw[px.o (λj hj=>hall.o j hj (by have:=eM.o;omega))];simp)]at hr;have p:=F hr;clear hr hall
  go_wp2_with(first|(go_at_call 167;refine(HPE.o _).k λw4 hb4=>?_;have d:=F<|HI.o.below (ag _) hb4.o;clear hb4)|(refine zR rfl 0 1 (.const (.int .i64 5)) 34 rfl (.int .i64 5) (.string c) (.agg (aT G5)) rfl rfl gD.o ?_)|(refine b6a rfl 4 35 rfl w w.heap.size _ G5 d.o (ag _) a7v.o rfl rfl ?_;intro w5 i5;have Bq:=F i5;clear i5))
  exact Rt rfl rfl Bq.o (by rw[p.o];rfl) (by rw[p.o];rfl)

theorem xV:∀n∈Z8,0<=n/\n<65536:=P8
theorem od{s:O}{sp:Bool}{h:gF}(e:sS s sp h):sV h:=by
 cases e with
 |six a d f c=>exact⟨Oc,by simp[H0],d,f⟩
 |name n e c hd hn U he=>exact⟨Oc,by simp[H0],rfl,xV⟩
 |four n e c h=>exact⟨Oc,⟨Oc,by simp only;omega⟩,rfl,xV⟩
 |empty e h=>exact⟨Oc,by simp[H0],rfl,xV⟩
 |a0z e c h U=>exact⟨Oc,by simp[H0],rfl,xV⟩
theorem WN:sV H0:=⟨by simp[H0],by simp[H0],rfl,xV⟩
theorem VR(s:O):(dD 0 s).length<=3*s.length:=gv 0 s

structure qj where
 user:O
 pass:O
 host:gF
 bz:Bool
 port:Int
def A0:qj:=⟨[],[],H0,false,0⟩
def eU(s:O):Bool:=s == [102,116,112]||s == [102,105,108,101]||s == [104,116,116,112]||s == [104,116,116,112,115]||s == [119,115]||s == [119,115,115]
def GB(s:O):Option Int :=
 if s=[102,116,112]then some 21 else if s=[104,116,116,112]\/s=[119,115]then some 80 else if s=[104,116,116,112,115]\/s=[119,115,115]then some 443 else none
def kU:Int->O->Option Int
 |n,[]=>some n
 |n,c::t=>if fg (G c) 10<0 then none else kU (if(9223372036854775807-fg (G c) 10)/10<n then 9223372036854775807 else n*10+fg (G c) 10) t
def dc(s:O):Option Int:=if s=[]then none else kU 0 s
def Uc(aJ s:O):Option (Int×Bool) :=
 if s=[]then some (0,false)else match dc s with
  |none=>none
  |some n=>if 65535<n then none else if GB aJ=some n then some (0,false)else some (n,true)
def zL:O->Option (O×O)
 | []=>none
 |c::t=>match zL t with|some (a,b)=>some (c::a,b)|none=>if c=64 then some ([],t)else none
def qH:O->O×O
 | []=>([],[])
 |c::t=>if c=58 then([],t)else(c::(qH t).1,(qH t).2)
def Ow:Bool->O->Option (O×O)
 |_,[]=>none
 |i,c::t=>if c=58/\i=false then some ([],t)else(Ow (if c=91 then true else if c=93 then false else i) t).map λp=>(c::p.1,p.2)
def Ct(aJ n q u p:O):Option qj:=match fm n (eU aJ)with
 |none=>none
 |some h=>match Uc aJ q with|none=>none|some (k,b)=>some ⟨u,p,h,b,k⟩
def tG(aJ s u p:O):Option qj:=match Ow false s with
 |some (n,q)=>if n=[]then none else Ct aJ n q u p
 |none=>Ct aJ s [] u p
def kr(aJ s:O):Option qj:=match zL s with
 |none=>tG aJ s [] []
 |some (who,rest)=>if rest=[]then none else tG aJ rest (dD 5 (qH who).1) (dD 5 (qH who).2)
theorem zM:∀{s:O},(64:UInt8)∉s->zL s=none
 | [],_=>rfl
 |c::t,h=>by
  rw[zL,zM (s:=t) (λI=>h (by simp[I]))];dsimp only;rw[gc (λe=>h (by simp[e]))]
theorem NO(a:O){b:O}(h:(64:UInt8)∉b):zL (a++64::b)=some (a,b):=by
 induction a with
 |nil=>rw[f9,zL,zM h];rfl
 |cons x r c=>rw[dE,zL,c]
theorem Xj:∀{s a b:O},zL s=some (a,b)->s=a++64::b/\(64:UInt8)∉b
 | [],_,_,h=>by cases h
 |c::t,a,b,h=>by
  rw[zL]at h;cases d:zL t with
  |some p =>
   obtain⟨a',b'⟩:=p;rw[d]at h;injection h with h
   injection h with Y I
   subst Y;subst I;obtain⟨e,i⟩:=Xj d;exact⟨by rw[e];rfl,i⟩
  |none =>
   rw[d]at h;dsimp only at h
   split at h
   ·next g =>
    injection h with h
    injection h with Y I
    subst Y;subst I;subst g;refine⟨rfl,λhm=>?_⟩
    have key:∀t:O,(64:UInt8)∈t->zL t≠none:=by
     intro t
     induction t with
     |nil=>intro h;cases h
     |cons x r j =>
      intro X e;rw[zL]at e;cases f:zL r with
      |some p=>rw[f]at e;cases e
      |none =>
       rw[f]at e;dsimp only at e;rcases aK.mp X with X|X
       ·rw[ge X.symm]at e;cases e
       exact j X f
    exact key _ hm d
   cases h
theorem a7x:∀{s:O},(58:UInt8)∉s->qH s=(s,[])
 | [],_=>rfl
 |c::t,h=>by rw[qH,gc (λe=>h (by simp[e])),a7x (s:=t) (λI=>h (by simp[I]))]
theorem b0z(a b:O)(h:(58:UInt8)∉a):qH (a++58::b)=(a,b):=by
 induction a with
 |nil=>rw[f9,qH,ge rfl]
 |cons x r c=>rw[dE,qH,gc (λe=>h (by simp[e])),c (λI=>h (by simp[I]))]
theorem b0q{a:O}(h:∀y∈a,y≠58/\y≠91/\y≠93)(i:Bool)(t:O):Ow i (a++t)=(Ow i t).map λp=>(a++p.1,p.2):=by
 induction a with
 |nil=>simp
 |cons x r d =>
  obtain⟨Y,I,c⟩:=h x Oc;rw[dE,Ow,gc (λe=>Y e.1),gc I,gc c,d (λy hy=>h y (by simp[hy]))];rw[a1C];rfl
theorem b27{a:O}(h:∀y∈a,y≠91/\y≠93)(t:O):Ow true (a++t)=(Ow true t).map λp=>(a++p.1,p.2):=by
 induction a with
 |nil=>simp
 |cons x r d =>
  obtain⟨I,c⟩:=h x Oc;rw[dE,Ow,gc (λe=>by cases e.2),gc I,gc c,d (λy hy=>h y (by simp[hy]))];rw[a1C];rfl
theorem b2r{a:O}(h:∀y∈a,y≠91/\y≠93)(t:O):Ow false ([91]++a++[93]++t)=(Ow false t).map λp=>([91]++a++[93]++p.1,p.2):=by
 have e:[91]++a++[93]++t=91::(a++93::t):=Oc;rw[e,Ow,gc (λe=>by revert e;decide),ge rfl,b27 h,Ow,gc (λe=>by cases e.2),gc P8,ge rfl];rw[a1C,a1C]
 congr 1
 funext p
 simp
theorem a9G:∀k:Fin 16,vE k.val≠91/\vE k.val≠93/\vE k.val≠64:=by decide +kernel
theorem b3c(u:Nat):∀y∈gg u,y≠91/\y≠93/\y≠64:=by
 induction u using Nat.strongRecOn with
 |ind u a =>
  intro y hy;by_cases h:u<16
  ·rw[b6U h]at hy
   obtain rfl:y=vE u:=by simpa using hy
   exact a9G ⟨u,h⟩
  rw[IQ h]at hy;rcases bO.mp hy with hy|hy
  ·exact a (u/16) M0 y hy
  obtain rfl:y=vE (u%16):=by simpa using hy
  exact a9G ⟨u%16,M0⟩
theorem a86(a:List Int):∀y∈uc a,y≠91/\y≠93/\y≠64:=by
 intro y hy;unfold uc iU at hy;obtain⟨t,_,hy⟩:=S8.mp hy;unfold rj at hy
 split at hy
 ·obtain rfl:y=58:=by simpa using hy
  decide
 split at hy
 ·obtain rfl:y=58:=by simpa using hy
  decide
 exact b3c _ y hy
theorem b0n:np 58=true/\np 91=true/\np 93=true/\np 64=true:=P8
theorem b2V{y:UInt8}(h:np (G y)=false):y≠58/\y≠91/\y≠93/\y≠64:=by
 have e58:G 58=58:=P8;have e91:G 91=91:=P8;have e93:G 93=93:=P8;have e64:G 64=64:=P8;obtain⟨Y,I,h3,h4⟩:=b0n;refine⟨?_,?_,?_,?_⟩
 all_goals
  rintro rfl;simp_all
theorem b1y{s:O}{sp:Bool}{h:gF}(e:fm s sp=some h)(t:O):Ow false (lJ h++t)=(Ow false t).map λp=>(lJ h++p.1,p.2):=by
 by_cases a:h.kind=4
 ·rw[a50 h a]
  exact b2r (λy hy=>⟨(a86 _ y hy).1,(a86 _ y hy).2.1⟩) t
 exact b0q (λy hy=>by
  have:=b2V ((a3P e).2.1 a y hy).2.2;exact⟨this.1,this.2.1,this.2.2.1⟩) false t
theorem b2v{s:O}{sp:Bool}{h:gF}(e:fm s sp=some h):(64:UInt8)∉lJ h:=by
 intro hm;by_cases a:h.kind=4
 ·rw[a50 h a]at hm
  simp only[bO,dS]at hm;rcases hm with(hm|hm)|hm
  ·revert hm;decide
  ·exact(a86 _ _ hm).2.2 rfl
  revert hm;decide
 exact(b2V ((a3P e).2.1 a _ hm).2.2).2.2.2 rfl

theorem b2S:∀k:Fin 10,fg (G (UInt8.ofNat (48+k.val))) 10=k.val:=by decide +kernel
theorem a8l:∀(l m:O) (n:Int),kU n (l++m)=(kU n l).bind λv=>kU v m
 | [],m,n=>rfl
 |c::t,m,n=>by
  rw[dE,kU,kU]
  split
  ·rfl
  exact a8l t m _
theorem b3y(u:Nat)(h:u<=1024000000):kU 0 (Lib.decDigits u)=some (u:Int):=by
 induction u using Nat.strongRecOn with
 |ind u a =>
  by_cases Y:u<10
  ·rw[Lib.decDigits_one Y,kU]
   have:=b2S ⟨u,Y⟩;simp only at this;rw[this,gc M0,gc M0,kU]
   congr 1
   omega
  have e:Lib.decDigits u=Lib.decDigits (u/10)++[UInt8.ofNat (48+u%10)]:=by rw[Lib.decDigits,dif_neg Y]
  have:=b2S ⟨u%10,M0⟩;simp only at this;rw[e,a8l,a (u/10) M0 M0];show kU _ _=_;rw[kU,this,gc M0,gc M0,kU]
  congr 1
  omega
theorem b1c(u:Nat):Lib.decDigits u ≠ []:=by
 intro h;have Y:=Lib.decDigits_length u;have I:=Lib.nDigits_pos u;rw[h]at Y;simp at Y;omega
theorem JQ:∀(l:O) (n v:Int),0<=n->kU n l=some v->0<=v
 | [],n,v,h,e=>by rw[kU]at e;injection e with e;omega
 |c::t,n,v,h,e=>by
  rw[kU]at e
  split at e
  ·cases e
  next hd =>
  refine JQ t _ v ?_ e
  split <;>omega
theorem a28{aJ q:O}{k:Int}{b:Bool}(h:Uc aJ q=some (k,b)):(b=false/\k=0)\/(b=true/\0<=k/\k<=65535/\GB aJ≠some k/\q ≠ []):=by
 unfold Uc at h
 split at h
 ·injection h with h;injection h with Y I;exact .inl ⟨I.symm,Y.symm⟩
 next a =>
 cases hw:dc q with
 |none=>rw[hw]at h;cases h
 |some n =>
  rw[hw]at h;dsimp only at h
  split at h
  ·cases h
  next hn =>
  split at h
  ·injection h with h;injection h with Y I;exact .inl ⟨I.symm,Y.symm⟩
  next c =>
  injection h with h;injection h with Y I
  subst Y;unfold dc at hw;rw[gc a]at hw;have:=JQ q 0 n M0 hw;exact .inr ⟨I.symm,this,M0,c,a⟩
theorem b2j{aJ:O}{k:Int}(h0:0<=k)(Y:k<=65535)(a:GB aJ≠some k):Uc aJ (Lib.itoa k)=some (k,true):=by
 obtain⟨u,rfl⟩:∃u:Nat,k=u:=⟨k.toNat,M0⟩;unfold Uc;rw[Lib.itoa_nonneg,gc (b1c u)];unfold dc;rw[gc (b1c u),b3y u M0];dsimp only;rw[gc M0,gc a]
theorem a2c(u:Nat):∀y∈Lib.decDigits u,48<=G y/\G y<=57:=by
 induction u using Nat.strongRecOn with
 |ind u a =>
  have key:∀k:Fin 10,48<=G (UInt8.ofNat (48+k.val))/\G (UInt8.ofNat (48+k.val))<=57:=by decide +kernel
  intro y hy;by_cases Y:u<10
  ·rw[Lib.decDigits_one Y]at hy
   rw[dS.mp hy];exact key ⟨u,Y⟩
  have e:Lib.decDigits u=Lib.decDigits (u/10)++[UInt8.ofNat (48+u%10)]:=by rw[Lib.decDigits,dif_neg Y]
  rw[e]at hy;rcases bO.mp hy with hy|hy
  ·exact a (u/10) M0 y hy
  rw[dS.mp hy];exact key ⟨u%10,M0⟩
theorem b0Q:∀k:Fin 256,(xq 5 (UInt8.ofNat k.val)).all (λy=>!k6 5 (G y))=true:=by decide +kernel
theorem a66{l:O}:∀y∈dD 5 l,k6 5 (G y)=false:=by
 intro y h;obtain⟨x,_,hy⟩:=S8.mp h;have a:=b0Q ⟨x.toNat,x.toNat_lt⟩;simp only[dN]at a;have:=dl.mp a y hy
 simpa using this
theorem a7X(l:O):dD 5 (dD 5 l)=dD 5 l:=Az a66
theorem b3m{l:O}:(58:UInt8)∉dD 5 l/\(64:UInt8)∉dD 5 l:=by
 refine⟨λh=>?_,λh=>?_⟩ <;>
 ·have:=a66 _ h
  revert this;decide
structure X6 (aJ:O) (a:qj):Prop where
 h:∃n,fm n (eU aJ)=some a.host/\(n=[]->a.user=[]/\a.pass=[]/\a.bz=false)
 u:∃x,a.user=dD 5 x
 p:∃x,a.pass=dD 5 x
 q:(a.bz=false/\a.port=0)\/(a.bz=true/\0<=a.port/\a.port<=65535/\GB aJ≠some a.port)
theorem Ph{aJ n q u p:O}{a:qj}(h:Ct aJ n q u p=some a)(hu:∃x,u=dD 5 x)(hp:∃x,p=dD 5 x)(i:n=[]->u=[]/\p=[]/\q=[]):X6 aJ a:=by
 unfold Ct at h;cases hh:fm n (eU aJ)with
 |none=>rw[hh]at h;cases h
 |some g =>
  rw[hh]at h;dsimp only at h;cases d:Uc aJ q with
  |none=>rw[d]at h;cases h
  |some v =>
   obtain⟨k,b⟩:=v;rw[d]at h;injection h with h
   subst h;have c:=a28 d;refine⟨⟨n,hh,λe=>?_⟩,hu,hp,?_⟩
   ·obtain⟨Y,I,f⟩:=i e
    refine⟨Y,I,?_⟩;rcases c with c|c
    ·exact c.1
    exact absurd f c.2.2.2.2
   rcases c with c|c
   ·exact .inl c
   exact .inr ⟨c.1,c.2.1,c.2.2.1,c.2.2.2.1⟩
theorem b8i{aJ s u p:O}{a:qj}(h:tG aJ s u p=some a)(hu:∃x,u=dD 5 x)(hp:∃x,p=dD 5 x)(d:s=[]->u=[]/\p=[]):X6 aJ a:=by
 unfold tG at h;cases c:Ow false s with
 |none =>
  rw[c]at h;exact Ph h hu hp (λe=>⟨(d e).1,(d e).2,rfl⟩)
 |some v =>
  obtain⟨n,q⟩:=v;rw[c]at h;dsimp only at h
  split at h
  ·cases h
  next f=>exact Ph h hu hp (λe=>absurd e f)
theorem Ih{aJ s:O}{a:qj}(h:kr aJ s=some a):X6 aJ a:=by
 unfold kr at h;cases c:zL s with
 |none =>
  rw[c]at h;exact b8i h ⟨[],rfl⟩ ⟨[],rfl⟩ (λ_=>⟨rfl,rfl⟩)
 |some v =>
  obtain⟨who,rest⟩:=v;rw[c]at h;dsimp only at h
  split at h
  ·cases h
  next d=>exact b8i h ⟨_,rfl⟩ ⟨_,rfl⟩ (λe=>absurd e d)
def a6y(a:qj):O:=if a.user=[]/\a.pass=[]then []else a.user++(if a.pass=[]then []else 58::a.pass)++[64]
def a3Q(a:qj):O:=if a.bz=true then 58::Lib.itoa a.port else []
def BJ(a:qj):O:=a6y a++lJ a.host++a3Q a
theorem b2E{aJ:O}{a:qj}(q:(a.bz=false/\a.port=0)\/(a.bz=true/\0<=a.port/\a.port<=65535/\GB aJ≠some a.port)):(64:UInt8)∉a3Q a:=by
 unfold a3Q;rcases q with q|q
 ·rw[gc (by simp[q.1])];simp
 rw[ge q.1];obtain⟨u,hu⟩:∃u:Nat,a.port=u:=⟨a.port.toNat,M0⟩;rw[hu,Lib.itoa_nonneg];intro h;rcases aK.mp h with h|h
 ·revert h;decide
 have:=a2c u _ h;have e:G 64=64:=P8;omega
theorem a7S{s:O}{sp:Bool}{h:gF}(e:fm s sp=some h)(c:h.kind=1):s=[]:=by
 cases hkind e with
 |six a h8 ha d=>exact absurd c Oc
 |name n e d hd hn U he=>exact absurd c Oc
 |four n e d h=>exact absurd c Oc
 |empty e h=>exact h
 |a0z e d h U=>exact absurd c Oc
theorem b0T{aJ:O}{a:qj}(ok:X6 aJ a):tG aJ (lJ a.host++a3Q a) a.user a.pass=some a:=by
 obtain⟨⟨n,hh,m⟩,_,_,q⟩:=ok;obtain⟨i,_,j⟩:=a3P hh;unfold tG;rw[b1y hh];rcases q with⟨c,h⟩|⟨c,h,o,p⟩
 ·have d:a3Q a=[]:=by unfold a3Q;rw[gc (by simp[c])]
  rw[d];rw[show Ow false ([]:O)=none from rfl,b4Z];dsimp only;rw[aV];unfold Ct;rw[i];dsimp only;rw[show Uc aJ []=some (0,false)from rfl];dsimp only;rw[<-c,<-h]
 have d:a3Q a=58::Lib.itoa a.port:=by unfold a3Q;rw[ge c]
 rw[d];have k:Ow false (58::Lib.itoa a.port)=some ([],Lib.itoa a.port):=by rw[Ow,ge ⟨rfl,rfl⟩]
 rw[k,Xg];dsimp only;rw[aV]
 have g:lJ a.host ≠ []:=by
  intro e;have l:=j.mp e;have f:=a7S hh l;have:=(m f).2.2;rw[c]at this;cases this
 rw[gc g];unfold Ct;rw[i];dsimp only;rw[b2j h o p];dsimp only;rw[<-c]
theorem a64{aJ:O}{a:qj}(ok:X6 aJ a):kr aJ (BJ a)=some a:=by
 have h:=b0T ok;obtain⟨⟨n,hh,j⟩,⟨x,X⟩,⟨y,hy⟩,q⟩:=id ok
 have d:(64:UInt8)∉lJ a.host++a3Q a:=λhm=>by
  rcases bO.mp hm with hm|hm
  ·exact b2v hh hm
  exact b2E q hm
 unfold kr;by_cases hw:a.user=[]/\a.pass=[]
 ·have e:BJ a=lJ a.host++a3Q a:=by unfold BJ a6y;rw[ge hw];simp
  rw[e,zM d];rw[hw.1,hw.2]at h;exact h
 have e:BJ a=(a.user++(if a.pass=[]then []else 58::a.pass))++64::(lJ a.host++a3Q a):=by unfold BJ a6y;rw[gc hw];simp
 rw[e,NO _ d];dsimp only
 have g:lJ a.host++a3Q a ≠ []:=by
  intro e;have f:=(lr.mp e).1;have l:=(a3P hh).2.2.mp f;have c:=a7S hh l;exact hw ⟨(j c).1,(j c).2.1⟩
 rw[gc g]
 have hcut:qH (a.user++(if a.pass=[]then []else 58::a.pass))=(a.user,a.pass):=by
  have i:(58:UInt8)∉a.user:=by rw[X];exact b3m.1
  by_cases hp:a.pass=[]
  ·rw[ge hp,aV,a7x i,hp]
  rw[gc hp,b0z _ _ i]
 rw[hcut];dsimp only;have f:dD 5 a.user=a.user:=by rw[X,a7X]
 have k:dD 5 a.pass=a.pass:=by rw[hy,a7X]
 rw[f,k];exact h

theorem rI(s t:O):((E s).toList==(E t).toList)=decide (s=t):=by rw[aB,aB,jB]
theorem gl(s:O)(w:H):bP prog 119 #[.string (E s)] w (.bool (eU s)):=by
 have a:=rI s [102,116,112];have c:=rI s [102,105,108,101];have d:=rI s [104,116,116,112];have e:=rI s [104,116,116,112,115];have f:=rI s [119,115];have g:=rI s [119,115,115]
 have h:eU s=(decide (s=[102,116,112])||decide (s=[102,105,108,101])||decide (s=[104,116,116,112])||decide (s=[104,116,116,112,115])||decide (s=[119,115])||decide (s=[119,115,115])):=by
  unfold eU;rw[jB,jB,jB,jB,jB,jB]
 rw[h];generalize decide (s=[102,116,112])=i at a⊢;generalize decide (s=[102,105,108,101])=G at c⊢;generalize decide (s=[104,116,116,112])=j at d⊢;generalize decide (s=[104,116,116,112,115])=k at e⊢;generalize decide (s=[119,115])=l at f⊢;generalize decide (s=[119,115,115])=m at g⊢;clear h;generalize E s=S at *;rw[aB]at a c d e f g;cases i
 ·cases G
  ·cases j
   ·cases k
    ·cases l
     ·cases m <;>
      ·go_enter func119,ntmps119
       go_wp2_with fail;go_ret;exact⟨rfl,rfl⟩
     go_enter func119,ntmps119;go_wp2_with fail;go_ret;exact⟨rfl,rfl⟩
    go_enter func119,ntmps119;go_wp2_with fail;go_ret;exact⟨rfl,rfl⟩
   go_enter func119,ntmps119;go_wp2_with fail;go_ret;exact⟨rfl,rfl⟩
  go_enter func119,ntmps119;go_wp2_with fail;go_ret;exact⟨rfl,rfl⟩
 go_enter func119,ntmps119;go_wp2_with fail;go_ret;exact⟨rfl,rfl⟩
theorem Mi(s:O)(w:H):bP prog 233 #[.string (E s)] w (.tuple #[.int .i64 ((GB s).getD 0),.bool (GB s).isSome]):=by
 have a:=rI s [102,116,112];have c:=rI s [104,116,116,112];have d:=rI s [104,116,116,112,115];have e:=rI s [119,115];have f:=rI s [119,115,115];unfold GB;by_cases j:s=[102,116,112]
 ·rw[gr j]at a
  rw[ge j];clear j;generalize E s=S at *;rw[aB]at a c d e f;go_enter func233,ntmps233;go_wp2_with fail
  go_ret2
  exact⟨rfl,rfl⟩
 rw[gh j]at a;rw[gc j];clear j;by_cases g:s=[104,116,116,112]
 ·rw[gr g]at c
  rw[ge (.inl g)];clear g;generalize E s=S at *;rw[aB]at a c d e f;go_enter func233,ntmps233;go_wp2_with fail
  go_ret2
  exact⟨rfl,rfl⟩
 rw[gh g]at c;by_cases k:s=[119,115]
 ·rw[gr k]at e
  rw[ge (.inr k)];clear k g;generalize E s=S at *;rw[aB]at a c d e f;go_enter func233,ntmps233;go_wp2_with fail
  go_ret2
  exact⟨rfl,rfl⟩
 rw[gh k]at e;rw[gc (λh=>h.elim g k)];clear g k;by_cases i:s=[104,116,116,112,115]
 ·rw[gr i]at d
  rw[ge (.inl i)];clear i;generalize E s=S at *;rw[aB]at a c d e f;go_enter func233,ntmps233;go_wp2_with fail
  go_ret2
  exact⟨rfl,rfl⟩
 rw[gh i]at d;by_cases l:s=[119,115,115]
 ·rw[gr l]at f
  rw[ge (.inr l)];clear i l;generalize E s=S at *;rw[aB]at a c d e f;go_enter func233,ntmps233;go_wp2_with fail
  go_ret2
  exact⟨rfl,rfl⟩
 rw[gh l]at f;rw[gc (λh=>h.elim i l)];clear i l;generalize E s=S at *;rw[aB]at a c d e f;go_enter func233,ntmps233;go_wp2_with fail
 go_ret2
 exact⟨rfl,rfl⟩
theorem WE(n:Int){l:O}{k:Nat}(h:k<l.length):kU n (l.drop k)=if fg (G l[k]) 10<0 then none else kU (if(9223372036854775807-fg (G l[k]) 10)/10<n then 9223372036854775807 else n*10+fg (G l[k]) 10) (l.drop (k+1)):=by
 rw[aC h];rfl
theorem Iy(c:Int):-1<=fg c 10/\fg c 10<10:=by
 unfold fg;simp only
 split <;>(try split) <;>(try split) <;>(try split) <;>omega
theorem ki(l:O)(w:H)(hl:l.length<=1024000000) :
  bP prog 180 #[.string (E l)] w (.tuple #[.int .i64 ((dc l).getD 0),.bool (dc l).isSome]):=by
 obtain⟨R,HR⟩:=ey (kU 0 l);unfold dc;rw[<-HR.o];obtain⟨s,t⟩:=V (E l);have u:s.size=l.length:=by rw[t,aF]
 have j:∀k (v:k<s.size) (p:k<l.length),((s[k]'v).toNat:Int)=G l[k]:=λk v p=>cy t v p;have hemp:(s.toList=[]) ↔ l=[]:=by rw[t,aB]
 rw[<-t];clear t;obtain⟨N,Q⟩:=V (s.size);have iP:s.size=N:=Q.symm;have oP:N<=1024000000:=M0;have iV:=F j;clear j;have L:=F u;clear u hl Q;by_cases hnil:l=[]
 ·rw[ge hnil]
  have he:=hemp.mpr hnil;have B:s.toList.isEmpty=true:=by simpa using he
  clear hemp;go_enter func180,ntmps180;go_wp2_with fail
  go_ret2
  exact⟨rfl,rfl⟩
 rw[gc hnil];have he:¬s.toList=[]:=λh=>hnil (hemp.mp h);have B:s.toList.isEmpty=false:=by simpa using he
 clear hemp;have Yy:=F hnil;clear hnil;go_enter func180,ntmps180;go_wp2_with fail
 go_loopw [4,11] (λnv iv wr=>∃(k:Nat) (n:Int),k<=N/\iv=.int .i64 k/\nv=.int .i64 n/\Hid (kU n (l.drop k)=R)/\0<=n/\n<=9223372036854775807/\w=wr) (λ_ i _=>N-(intOf i).toNat)
 exact⟨0,0,M0,Oc,Oc,HR.o.symm,M0,M0,rfl⟩
 obtain⟨k,n,v,rfl,rfl,hd,hn0,hn1,rfl⟩:=hrel;by_cases hlt:k<N
 ·have mf:k<s.size:=by omega
  have q:k<l.length:=by have:=L.o;omega
  have X:=iV.o k mf q;have a:=WE n q;rw[hd.o]at a;have T:=jL l[k];have d:=λW=>dm (G l[k]) 10 W T M0;have C:=Iy (G l[k]);generalize fg (G l[k]) 10=D at a d C;generalize G l[k]=X' at X T d;have K:=F d;clear d hd;by_cases g:D<0
  ·rw[ge g]at a
   have c:=F a;clear a
   go_wp2_with(go_at_call 93;refine(K.o _).e ?_)
   go_ret2
   exact⟨by rw[c.o];rfl,rfl⟩
  rw[gc g]at a;have J:IntKind.i64.wrap (9223372036854775807-D)=9223372036854775807-D:=gS _ M0;obtain⟨M,hM⟩:=V (9223372036854775807-D);rw[<-hM]at J a;have x:0<=M:=M0;have hdv:Int.tdiv M 10=M/10:=a1A x;have hq1:0<=M/10/\M/10<=922337203685477580:=M0;have hw2:IntKind.i64.wrap (M/10)=M/10:=gS _ M0;by_cases r:M/10<n
  ·rw[ge r]at a
   have c:=F a;clear a
   go_wp2_with(go_at_call 93;refine(K.o _).e ?_)
   go_roundw
   exact⟨k+1,9223372036854775807,M0,Oc,Oc,c.o.symm,M0,M0,by trivial⟩
   exact aa
  rw[gc r]at a;have c:=F a;clear a;obtain⟨Z',hZ⟩:=V (n*10);have hw3:IntKind.i64.wrap (n*10)=n*10:=gS _ M0;have hw4:IntKind.i64.wrap (n*10+D)=n*10+D:=gS _ M0;clear hZ
  go_wp2_with(go_at_call 93;refine(K.o _).e ?_)
  go_roundw
  exact⟨k+1,n*10+D,M0,Oc,Oc,c.o.symm,M0,M0,by trivial⟩
  exact aa
 obtain rfl:k=N:=M0;have z:l.drop k=[]:=bE (by have:=L.o;omega);have f:=hd.o;rw[z]at f;have c:=fo (some n=R) f;clear f hd;go_wp2_with fail
 go_ret2
 exact⟨by rw[<-c.o];rfl,rfl⟩
