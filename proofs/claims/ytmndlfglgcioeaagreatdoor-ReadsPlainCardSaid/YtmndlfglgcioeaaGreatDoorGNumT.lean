/- NumT SerW EmD EmE EmF EmH EmJ EmK: joined. -/
import Derived.Shelf.Strconv.Itoa4
import Derived.Test.YtmndlfglgcioeaaGreatDoorGNumB
import Derived.Deep.DeepCutAuto
import Derived.Test.YtmndlfglgcioeaaGreatDoorGEmB
set_option maxHeartbeats 40000000
namespace Go.Proofs.YtmndlfglgcioeaaGreatDoor
open Tryz
open Go.RowKit
set_option maxRecDepth 10000
theorem Ad (u:Nat) (w:World) (h10:u<10):Calls prog 16 #[.int .i64 u] w fun e w'=>e=.returned (S (Lib.decDigits u))∧Below w.heap.size w w':=by
 have hi:(u:Int)<10:=by omega
 have hi0:(0:Int)<=u:=by omega
 have hcv:=fun W=>SJ (P:=prog) underlying50 underlying5 underlying9 ((48:Int)+u) (by omega) W
 have hd:=Gn h10
 have hb:UInt8.ofNat ((48:Int)+u).toNat=UInt8.ofNat (48+u):=by congr 1
 rw[hb,<-hd]at hcv
 clear hb hd
 go_enter func16,ntmps16
 go_wp2_with fail
 go_ret
 exact⟨rfl,(Below.refl _ _).alloc (ae _) _⟩
theorem v8:∀ (u:Nat) (w:World),u<=9223372036854775807->Calls prog 16 #[.int .i64 u] w fun e w'=>e=.returned (S (Lib.decDigits u))∧Below w.heap.size w w':=by
 intro u
 induction u using Nat.strongRecOn with
 |ind u ih =>
  intro w hu
  by_cases h10:u<10
  ·exact Ad u w h10
  have hi:¬ (u:Int)<10:=by omega
  have hi0:(0:Int)<=u:=by omega
  have hcv:=fun W=>SJ (P:=prog) underlying50 underlying5 underlying9 ((48:Int)+(u:Int)%10) (by omega) W
  have hi2:(u:Int)<=9223372036854775807:=by omega
  have w1:IntKind.i64.wrap ((u:Int)/10)=(u:Int)/10:=IntWalk.i64_in _ (by omega)
  have w2:(u:Int).tmod 10=(u:Int)%10:=cZ (by omega)
  have w3:IntKind.i64.wrap (48+(u:Int)%10)=48+(u:Int)%10:=IntWalk.i64_in _ (by omega)
  have w4:IntKind.u8.wrap (48+(u:Int)%10)=48+(u:Int)%10:=IntWalk.u8_in _ (by omega)
  have hd:=Pr h10
  have hb:UInt8.ofNat ((48:Int)+(u:Int)%10).toNat=UInt8.ofNat (48+u%10):=by congr 1
  have PU:=fun b W=>UH (P:=prog) underlying50 underlying5 underlying9 ((48:Int)+(u:Int)%10) (by omega) b W
  rw[hb]at hcv PU
  have hrec:∀ (q:Int),q=((u/10:Nat):Int)->∀ W,Calls prog 16 #[.int .i64 q] W fun e w'=>e=.returned (S (Lib.decDigits (u/10)))∧Below W.heap.size W w':=fun q hq W=>hq▸ih (u/10) (by omega) W (by omega)
  have hlen:=jn 18 (u/10) (by omega)
  have rC:=gO (Lib.decDigits (u/10)) [UInt8.ofNat (48+u%10)]
  rw[<-hd]at rC
  obtain⟨dg,hdg⟩:=ap (UInt8.ofNat (48+u%10))
  rw[<-hdg]at rC hcv PU
  clear hdg
  obtain⟨D,hD⟩:=ap (Lib.decDigits u)
  obtain⟨T,hT⟩:=ap (Lib.decDigits (u/10))
  rw[<-hD]at rC ⊢
  rw[<-hT]at rC hrec hlen
  have hlt:¬ 9223372036854775807<T.length+1:=by omega
  clear hb hd ih hD hT
  have TQ:=h_ hrec;clear hrec
  have IC:=h_ PU;clear PU
  go_enter func16,ntmps16
  go_wp2_with fail
  refine wp_region_held_drew (S:=fun _=>True) (by kernel_rfl) (by exact trivial) (fun hHeld=>?_)
  refine tq 0 rfl ?_ (fun w hSw=>?_) ?_
  rotate_left
  ·(try dsimp only at hSw);go_simp;first|done|with_reducible rfl
  try simp only[Act.put,aK,aL,aM]
  refine tq 1 rfl ?_ (fun w hSw=>?_) ?_
  rotate_left
  ·(try dsimp only at hSw);go_simp;first|done|with_reducible rfl
  try simp only[Act.put,aK,aL,aM]
  refine tq 3 rfl ?_ (fun w hSw=>?_) ?_
  rotate_left
  ·(try dsimp only at hSw);go_simp;first|done|with_reducible rfl
  try simp only[Act.put,aK,aL,aM]
  refine tq 4 rfl ?_ (fun w hSw=>?_) ?_
  rotate_left
  ·(try dsimp only at hSw);go_simp;first|done|with_reducible rfl
  try simp only[Act.put,aK,aL,aM]
  refine tq 5 rfl ?_ (fun w hSw=>?_) ?_
  rotate_left
  ·(try dsimp only at hSw);go_simp;first|done|with_reducible rfl
  try simp only[Act.put,aK,aL,aM]
  refine tq 6 rfl ?_ (fun w hSw=>?_) ?_
  rotate_left
  ·(try dsimp only at hSw);go_simp;first|done|with_reducible rfl
  try simp only[Act.put,aK,aL,aM]
  refine rn2 2 7 (by kernel_rfl) rfl (by rfl) ?_ rfl (by rfl) ?_
  ·intro K hK
   go_simp
   refine(TQ.out _ (by omega) _).mono ?_
   rintro e w2 ⟨rfl,hb2⟩
   have HB2:=h_ hb2;clear hb2
   dsimp only
   refine hK.out _ _ ?_ (fun hHeld=>?_)
   ·exact trivial
   clear hK K
   try simp only[Act.put,aK,aL,aM]
   refine rn 7 (by kernel_rfl) rfl (by rfl) (fun K hK=>?_)
   go_simp
   refine hK.out _ _ ?_ (fun hHeld=>?_)
   ·exact trivial
   clear hK K
   try simp only[Act.put,aK,aL,aM]
   refine rn 8 (by kernel_rfl) rfl (by rfl) (fun K hK=>?_)
   go_simp
   refine hK.out _ _ ?_ (fun hHeld=>?_)
   ·exact trivial
   clear hK K
   try simp only[Act.put,aK,aL,aM]
   refine tq 9 rfl ?_ (fun w hSw=>?_) ?_
   rotate_left
   ·(try dsimp only at hSw);go_simp;first|done|with_reducible rfl
   try simp only[Act.put,aK,aL,aM]
   refine tq 10 rfl ?_ (fun w hSw=>?_) ?_
   rotate_left
   ·(try dsimp only at hSw);go_simp;first|done|with_reducible rfl
   try simp only[Act.put,aK,aL,aM]
   refine wpAnyH_done (by kernel_rfl) ?_ _
   go_wp2_with fail
   go_ret
   refine⟨rfl,?_⟩
   have hb2:=HB2.out
   have hbw:Below w.heap.size w w2:=by
    first
     |exact(Below.refl w.heap.size w).drew.trans hb2
     |exact((Below.refl w.heap.size w).alloc (ae _) _).drew.trans (Below.mono (B':=w.heap.size) hb2 (by simp))
   first
    |exact hbw
    |exact hbw.alloc hbw.size _
  intro K hK
  go_simp
  refine hK.out _ _ ?_ (fun hHeld=>?_)
  ·exact trivial
  clear hK K
  try simp only[Act.put,aK,aL,aM]
  refine rn2 2 8 (by kernel_rfl) rfl (by rfl) ?_ rfl (by rfl) ?_
  ·intro K hK
   go_simp
   refine(TQ.out _ (by omega) _).mono ?_
   rintro e w2 ⟨rfl,hb2⟩
   have HB2:=h_ hb2;clear hb2
   dsimp only
   refine hK.out _ _ ?_ (fun hHeld=>?_)
   ·exact trivial
   clear hK K
   try simp only[Act.put,aK,aL,aM]
   refine rn 8 (by kernel_rfl) rfl (by rfl) (fun K hK=>?_)
   go_simp
   rw[IC.out _ _ ((HB2.out.cell (p:=⟨w.heap.size,0,none⟩) (by simp)).trans (by simp[World.cell?_alloc_mark]))]
   simp only[Result.andThen]
   rw[Oper.upon_value]
   go_simp
   refine hK.out _ _ ?_ (fun hHeld=>?_)
   ·exact trivial
   clear hK K
   try simp only[Act.put,aK,aL,aM]
   refine tq 9 rfl ?_ (fun w hSw=>?_) ?_
   rotate_left
   ·(try dsimp only at hSw);go_simp;first|done|with_reducible rfl
   try simp only[Act.put,aK,aL,aM]
   refine tq 10 rfl ?_ (fun w hSw=>?_) ?_
   rotate_left
   ·(try dsimp only at hSw);go_simp;first|done|with_reducible rfl
   try simp only[Act.put,aK,aL,aM]
   refine wpAnyH_done (by kernel_rfl) ?_ _
   go_wp2_with fail
   go_ret
   refine⟨rfl,?_⟩
   have hb2:=HB2.out
   have hbw:Below w.heap.size w w2:=by
    first
     |exact(Below.refl w.heap.size w).drew.trans hb2
     |exact((Below.refl w.heap.size w).alloc (ae _) _).drew.trans (Below.mono (B':=w.heap.size) hb2 (by simp))
   first
    |exact hbw
    |exact hbw.alloc hbw.size _
  intro K hK
  go_simp
  rw[IC.out _ _ (by simp[World.cell?_alloc_mark])]
  simp only[Result.andThen]
  rw[Oper.upon_value]
  go_simp
  refine hK.out _ _ ?_ (fun hHeld=>?_)
  ·exact trivial
  clear hK K
  try simp only[Act.put,aK,aL,aM]
  refine rn 2 (by kernel_rfl) rfl (by rfl) (fun K hK=>?_)
  go_simp
  refine(TQ.out _ (by omega) _).mono ?_
  rintro e w2 ⟨rfl,hb2⟩
  have HB2:=h_ hb2;clear hb2
  dsimp only
  refine hK.out _ _ ?_ (fun hHeld=>?_)
  ·exact trivial
  clear hK K
  try simp only[Act.put,aK,aL,aM]
  refine tq 9 rfl ?_ (fun w hSw=>?_) ?_
  rotate_left
  ·(try dsimp only at hSw);go_simp;first|done|with_reducible rfl
  try simp only[Act.put,aK,aL,aM]
  refine tq 10 rfl ?_ (fun w hSw=>?_) ?_
  rotate_left
  ·(try dsimp only at hSw);go_simp;first|done|with_reducible rfl
  try simp only[Act.put,aK,aL,aM]
  refine wpAnyH_done (by kernel_rfl) ?_ _
  go_wp2_with fail
  go_ret
  refine⟨rfl,?_⟩
  have hb2:=HB2.out
  have hbw:Below w.heap.size w w2:=by
   first
    |exact(Below.refl w.heap.size w).drew.trans hb2
    |exact((Below.refl w.heap.size w).alloc (ae _) _).drew.trans (Below.mono (B':=w.heap.size) hb2 (by simp))
  first
   |exact hbw
   |exact hbw.alloc hbw.size _

def a0l (u:Url):Bytes:=if u.aZ then [58]++Lib.itoa u.port else []
def a3u (u:Url):Bytes:=if u.opq=false∧2<=u.path.length∧u.path.head? = some []then [47,46]else []
def Uq (u:Url):Bytes:=if u.host.kind=0 then a3u u else [47,47]++a4Y u++ZH u.host++a0l u
def qF (u:Url):Bytes:=if u.bP then [63]++u.q else []
def frF (u:Url) (Vd:Bool):Bytes:=if u.bS&&Vd then [35]++u.f else []
def a0y (u:Url) (Vd:Bool):Bytes:=u.aC++[58]++Uq u++a0j u++qF u++frF u Vd
structure Ee (u:Url):Prop where
 aC:u.aC.length<=1024000000
 usr:u.usr.length<=102400000
 ed:u.ed.length<=102400000
 name:u.host.name.length<=102400000
 flat:u.flat.length<=1024000000
 path:(cy u.path).length<=1024000000
 q:u.q.length<=1024000000
 f:u.f.length<=1024000000

def rfF (d:Bytes) (has:Bool) (u:Bytes):Bytes:=if has then d++[59,32,117,114,108,61]++u else d
theorem a4H (x:UInt8) (r:Bytes):Lib.hasPrefix (x::r) [44]=decide (b2 x=44):=by
 have h3:Lib.hasPrefix (x::r) [44]=((44:UInt8)==x):=by simp[Lib.hasPrefix,List.isPrefixOf]
 rw[h3]
 by_cases h:x=44
 ·subst h;rfl
 have h2:((44:UInt8)==x)=false:=by simpa using Ne.symm h
 rw[h2]
 symm
 apply decide_eq_false
 intro h1
 apply h
 apply ew.mp
 have h4:(x.toNat:Int)=44:=h1
 have h5:(44:UInt8).toNat=44:=rfl
 omega
theorem a4T (x:UInt8) (r:Bytes):Lib.hasSuffix (r++[x]) [44]=decide (b2 x=44):=by
 have h:=a4H x r.reverse
 unfold Lib.hasSuffix List.isSuffixOf
 rw[AT]
 exact h

theorem Bn.sm {u:Url} (h:Bn u):Ee u:=by
 have h1:=vN u.path
 exact⟨by have:=h.aC;omega,by have:=h.usr;omega,by have:=h.ed;omega,by have:=h.name;omega,by have:=h.flat;omega,by have:=h.path;have:=h.tot;omega,by have:=h.q;omega,by have:=h.f;omega⟩
def Pb (G:Prop) (e:Ending):Prop:=∃ b,e=.returned (.bool b)∧(b=true->G)
theorem Pb.ff {G:Prop}:Pb G (.returned (.bool false)):=⟨false,rfl,fun h=>(by cases h)⟩
theorem Pb.of {G:Prop} {b:Bool} (h:b=true->G):Pb G (.returned (.bool b)):=⟨b,rfl,h⟩

structure gG where
 right:Bool
 url:Url
 words:List Bytes
def cV (pv wv:Value) (i:gG):List Value:=.bool i.right::(bH pv i.url++[wv])
def se (B:Nat) (w:World) (b o:Nat) (i:gG):Prop:=∃ pv wv,w.rangeAt b o (cV pv wv i)∧sf i.url∧Sl B w pv (i.url.path.map S)∧Sl B w wv (i.words.map S)
def Items (B:Nat) (w:World) (v:Value) (l:List gG):Prop :=
 ∃c,l.length<=c∧((l=[]∧∃ a,v=.slice a 0 c)∨∃ b o,b<B∧v=.slice (some ⟨b,o,none⟩) l.length c∧∀ k (hk:k<l.length),se B w b (o+k*25) l[k])
theorem se.below {B b o:Nat} {w w':World} {i:gG} (h:se B w b o i) (hb:Below B w w') (hB:b<B):se B w' b o i:=by
 obtain⟨pv,wv,h1,h2,h3,h4⟩:=h
 exact⟨pv,wv,fun j v hj=>(hb.cell (p:=⟨b,o+j,none⟩) hB).trans (h1 j v hj),h2,h3.below hb,h4.below hb⟩
theorem se.more {B B' b o:Nat} {w:World} {i:gG} (h:se B w b o i) (hB:B<=B'):se B' w b o i:=by
 obtain⟨pv,wv,h1,h2,h3,h4⟩:=h
 exact⟨pv,wv,h1,h2,h3.more hB,h4.more hB⟩
theorem Items.below {B:Nat} {w w':World} {v:Value} {l:List gG} (h:Items B w v l) (hb:Below B w w'):Items B w' v l:=by
 obtain⟨c,hc,h⟩:=h
 refine⟨c,hc,?_⟩
 rcases h with h|⟨b,o,hB,hv,ha⟩
 ·exact .inl h
 exact .inr ⟨b,o,hB,hv,fun k hk=>(ha k hk).below hb hB⟩
theorem Items.more {B B':Nat} {w:World} {v:Value} {l:List gG} (h:Items B w v l) (hB:B<=B'):Items B' w v l:=by
 obtain⟨c,hc,h⟩:=h
 refine⟨c,hc,?_⟩
 rcases h with h|⟨b,o,hb,hv,ha⟩
 ·exact .inl h
 exact .inr ⟨b,o,by omega,hv,fun k hk=>(ha k hk).more hB⟩
theorem QY {B:Nat} {w:World} {v:Value} {xs:List Value} (h:Sl B w v xs):v.oneCell'=true:=by
 obtain⟨a,c,rfl⟩:=dt h
 rfl
def Kb (nb:Nat) (C:Array Value) (w:World):Prop:=w.heap[nb]? = some (.cells C 41 (0,0))
theorem Kb.cell {nb:Nat} {C:Array Value} {w:World} (h:Kb nb C w) (i:Nat):w.cell? ⟨nb,i,none⟩=C[i]?:=Go.Joins.cell_of_block h i
theorem Kb.below {nb:Nat} {C:Array Value} {w w':World} (h:Kb nb C w) (hb:Below w.heap.size w w'):Kb nb C w':=by
 have hlt:nb<w.heap.size:=by
  rcases cU nb w.heap.size with hlt|hge
  ·exact hlt
  unfold Kb at h;rw[cJ hge]at h;cases h
 exact(hb.block nb hlt).trans h
theorem Kb.fr {nb:Nat} {C:Array Value} {w w':World} {b:Nat} {g:Option Nat} {l:Bytes} (h:Kb nb C w) (hB:np b g l w) (hf:Fr (fun k=>k=b∨g=some k) w w'):Kb nb C w':=by
 have hlt:nb<w.heap.size:=by
  rcases cU nb w.heap.size with hlt|hge
  ·exact hlt
  unfold Kb at h;rw[cJ hge]at h;cases h
 refine(hf.block nb hlt ?_).trans h
 have key:∀ p,oM p b g l w->¬ (nb=b∨g=some nb):=by
  rintro p ⟨v,hb,ho,hg⟩ hx
  unfold Kb at h
  rcases hx with rfl|hx
  ·rw[hb]at h
   injection h with h
   injection h with _ h
   revert h;decide
  rcases ho.2 with⟨rfl,_⟩|⟨g',cap,cur,rfl,_,hg',_⟩
  ·rw[<-hg]at hx;cases hx
  have e:g'=nb:=by rw[<-hg]at hx;injection hx
  rw[e]at hg'
  rw[hg']at h
  injection h with h
  injection h with _ h
  revert h;decide
 rcases hB with hB|hB
 ·exact key _ hB
 exact key _ hB
structure XV (i:gG):Prop where
 url:Ee i.url
 n:i.words.length<=10
 w:∀ x∈i.words,x.length<=100
def WF (l:List Bytes):Bytes:=l.flatMap fun x=>[32]++x
def S8 (i:gG):Bytes:=a0y i.url true++WF i.words
def Z9:List gG->Bytes
 | []=>[]
 |x::r=>S8 x++r.flatMap fun y=>[44,32]++S8 y

def Lk (l:List gG):Bytes:=match l with | []=>[]|i::_=>a0y i.url true
def YF (k:Int) (l:List gG) (d:Bytes):Bytes:=if k=1 then Lk l else if k=2 then Z9 l else if k=3 then rfF d true (Lk l)else []
def yw (k:Int) (l:List gG) (d:Bytes):Bytes:=if l=[]then []else fh (YF k l d)

structure JL (i:gG):Prop where
 url:Bn i.url
 n:i.words.length<=10
 w:∀ x∈i.words,x.length<=100
theorem JL.sm {i:gG} (h:JL i):XV i:=⟨h.url.sm,h.n,h.w⟩

def h0:gE:=⟨0,[],0,[0,0,0,0,0,0,0,0]⟩
def hA:gE:=⟨2,[97],0,[0,0,0,0,0,0,0,0]⟩
def uA:Url:=⟨[104,116,116,112],[],[],hA,false,0,false,[],[[]],true,[98,38,99],false,[]⟩
def uO (fl:Bytes):Url:=⟨[120],[],[],h0,false,0,true,fl,[],false,[],false,[]⟩
theorem Yz (w:World):(Instr.build 27 #[(0,.int .i64 2),(1,.string ⟨#[97]⟩)]).run prog w=.ok (.agg (aW hA).toArray) w:=by kernel_rfl
theorem zO (w:World) (cs:List Value) (t:TypeId):(w.alloc (.cells cs.toArray t)).rangeAt w.heap.size 0 cs:=fun j v hj=>by
 rw[World.cell?_alloc_mark,bk,bY];exact hj
theorem Dn {w w':World} {b o:Nat} {cs:List Value} (h:w.rangeAt b o cs) (hb:Below w.heap.size w w') (hlt:b<w.heap.size):w'.rangeAt b o cs:=fun j v hj=>(hb.cell (p:=⟨b,o+j,none⟩) hlt).trans (h j v hj)
section
variable {ops:Array Oper} {rest:List Oper} {o:Oper} {a:Act} {w:World} {Q:Exit->Act->World->Prop}
theorem vo (hg:o.guard=none) (t:TypeId) (n:Nat) (parts:Array (Nat×Operand)) (ho:o.op=.buildSlice t n parts) (v:Value) (w':World) (xs:Array (Nat×Value)) (hx:parts.map (fun(i,x)=>(i,a.eval x))=xs) (hr:(Instr.buildSlice t n xs).run prog w=.ok v w') (h:wpList prog ops Q rest (a.put o.dst v) w'):wpList prog ops Q (o::rest) a w:=by
 refine wpList_plain hg fun K hK=>?_
 subst hx
 unfold Oper.wp execOp
 simp only[ho,Sem.run_bind,Sem.run_pure,Result.andThen_ok,hr]
 exact hK _ _ h
theorem Bt (hg:o.guard=none) (ho:o.op=.build 27 #[(0,.const (.int .i64 2)),(1,.const (.string ⟨#[97]⟩))]) (h:wpList prog ops Q rest (a.put o.dst (.agg (aW hA).toArray)) w):wpList prog ops Q (o::rest) a w :=
 bG hg 27 _ ho (.agg (aW hA).toArray) #[(0,.int .i64 2),(1,.string ⟨#[97]⟩)] (by simp[Act.eval]) Yz h
end
structure JR (W:World) (b:Nat) (pv:Value) (u:Url):Prop where
 range:W.rangeAt b 0 (bH pv u)
 lt:b<W.heap.size
 ok:sf u
 sl:Sl W.heap.size W pv (u.path.map S)
theorem JR.keep {W W':World} {b:Nat} {pv:Value} {u:Url} (h:JR W b pv u) (hb:Below W.heap.size W W'):JR W' b pv u :=
 ⟨Dn h.range hb h.lt,aP h.lt hb.size,h.ok,(h.sl.below hb).more hb.size⟩
theorem JR.new (W:World) (pv:Value) (u:Url) (ok:sf u) (sl:Sl W.heap.size W pv (u.path.map S)):JR (W.alloc (.cells (bH pv u).toArray 30)) W.heap.size pv u :=
 ⟨zO W _ _,by simp,ok,(sl.below ((Below.refl _ _).alloc (ae _) _)).more (by simp)⟩
theorem QX (W:World) (s:Bytes):Sl (W.alloc (.cells #[S s] 9)).heap.size (W.alloc (.cells #[S s] 9)) (.slice (some ⟨W.heap.size,0,none⟩) 1 1) ([s].map S):=by
 refine⟨1,by simp,by unfold maxLen;omega,.inr ⟨W.heap.size,0,by simp,rfl,fun j hj=>?_⟩⟩
 have h0:j=0:=by simpa using hj
 subst h0
 rw[World.cell?_alloc_mark];rfl
def iA:gG:=⟨false,uA,[[49,120]]⟩
def iB:gG:=⟨false,uO [121],[]⟩
section
variable {ops:Array Oper} {rest:List Oper} {o:Oper} {a:Act} {w:World} {Q:Exit->Act->World->Prop}
end
theorem w2:yw 2 [iA,iB] [53]=[104,116,116,112,58,47,47,97,47,63,98,38,97,109,112,59,99,32,49,120,44,32,120,58,121]:=by decide +kernel
theorem w1:yw 1 [iA,iB] [53]=[104,116,116,112,58,47,47,97,47,63,98,38,97,109,112,59,99]:=by decide +kernel
theorem w3:yw 3 [iA,iB] [53]=[53,59,32,117,114,108,61,104,116,116,112,58,47,47,97,47,63,98,38,97,109,112,59,99]:=by decide +kernel
theorem w0:yw 0 [iA,iB] [53]=[]:=by decide +kernel
end Go.Proofs.YtmndlfglgcioeaaGreatDoor
