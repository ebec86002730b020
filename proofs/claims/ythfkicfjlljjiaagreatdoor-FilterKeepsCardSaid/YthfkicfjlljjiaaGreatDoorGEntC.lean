/- Joined texts. -/
import Derived.Test.YthfkicfjlljjiaaGreatDoorGEmB
import Derived.Deep.Cut
import Derived.Test.YthfkicfjlljjiaaGreatDoorGTextI
set_option maxHeartbeats 40000000
namespace Go.Proofs.YthfkicfjlljjiaaGreatDoor
open Tryz
open Go.RowKit
set_option maxRecDepth 10000
def CA:List (O×O):=[([97,109,112],[38]),([65,77,80],[38]),([108,116],[60]),([76,84],[60]),([103,116],[62]),([71,84],[62]),([113,117,111,116],[34]),([81,85,79,84],[34]),([110,98,115,112],[194,160]),([115,104,121],[194,173]),([110,111,116],[194,172]),([114,101,103],[194,174]),([99,111,112,121],[194,169]),([112,97,114,97],[194,182]),([115,101,99,116],[194,167]),([121,101,110],[194,165]),([100,101,103],[194,176]),([116,105,109,101,115],[195,151]),([101,97,99,117,116,101],[195,169]),([111,117,109,108],[195,182]),([115,122,108,105,103],[195,159])]
def rU:List (O×O):=[([110,111,116,105,110],[226,136,137]),([110,118,108,116],[60,226,131,146]),([110,118,103,116],[62,226,131,146]),([122,119,110,106],[226,128,140]),([122,119,106],[226,128,141]),([90,101,114,111,87,105,100,116,104,83,112,97,99,101],[226,128,139]),([78,111,66,114,101,97,107],[226,129,160]),([102,106,108,105,103],[102,106]),([99,111,112,121,115,114],[226,132,151]),([116,105,109,101,115,98,97,114],[226,168,177])]
def nd:List (O×Nat):=[([97,112,111,115],39),([99,111,108,111,110],58),([115,111,108],47),([98,115,111,108],92),([113,117,101,115,116],63),([110,117,109],35),([112,101,114,99,110,116],37),([99,111,109,109,97,116],64),([101,113,117,97,108,115],61),([112,108,117,115],43),([99,111,109,109,97],44),([112,101,114,105,111,100],46),([115,101,109,105],59),([101,120,99,108],33),([100,111,108,108,97,114],36),([97,115,116],42),([108,111,119,98,97,114],95),([103,114,97,118,101],96),([72,97,116],94),([108,112,97,114],40),([114,112,97,114],41),([108,115,113,98],91),([114,115,113,98],93),([108,99,117,98],123),([114,99,117,98],125),([118,101,114,98,97,114],124),([84,97,98],9),([78,101,119,76,105,110,101],10)]
def y8:List Nat:=[8364,129,8218,402,8222,8230,8224,8225,710,8240,352,8249,338,141,381,143,144,8216,8217,8220,8221,8226,8211,8212,732,8482,353,8250,339,157,382,376]
theorem ku{P:UInt8->Prop}(h:∀ k:Fin 256,P (UInt8.ofNat k.val))(x:UInt8):P x:=by
 have:=h ⟨x.toNat,x.toNat_lt⟩;rw[dN]at this;exact this
def look{α:Type}:List (O×α)->O->Option α
 | [],_=>none
 |p::l,s=>if s=p.1 then some p.2 else look l s
def yv(s:O):Option O:=look CA s
def nN(s:O):Nat:=(look nd s).getD 0
def iX(s:O):Option O:=if nN s≠0 then some (enc (nN s:Int))else look rU s
def jm(s:O):O:=if s.getLast? = some 59 then s.dropLast else s
def fT(s:O):Option O:=match yv (jm s)with
 |some t=>some t
 |none=>if s.getLast? = some 59 then iX (jm s)else none
def tL(n:Int):Int:=if 128<=n/\n<=159 then((y8.getD (n-128).toNat 0:Nat):Int)else n
def iH(n:Int):O:=if n=0 then enc 65533 else enc (tL n)
def uU(n:Int):Int:=if n<=1114112 then n else 1114112
def mB(base:Int):Int->O->Int×Nat
 |n,[]=>(n,0)
 |n,x::r=>if fg (G x) base<0 then(n,0)else((mB base (uU (n*base+fg (G x) base)) r).1,(mB base (uU (n*base+fg (G x) base)) r).2+1)
def FT(s:O):Bool:=decide (s[2]? = some 120\/s[2]? = some 88)
def Er(s:O)(b:Int)(f:Nat):O×Nat :=
 if(mB b 0 (s.drop f)).2=0 then([38],1)else(iH (mB b 0 (s.drop f)).1,f+(mB b 0 (s.drop f)).2+(if s[f+(mB b 0 (s.drop f)).2]? = some 59 then 1 else 0))
def vY(s:O):O×Nat:=if FT s=true then Er s 16 3 else Er s 10 2
def yz(c:UInt8):Bool:=decide ((65<=G c/\G c<=90)\/(97<=G c/\G c<=122))||decide (48<=G c/\G c<=57)||decide (c=61)
def VL(s:O)(n:Nat):Bool:=decide (s[n]? ≠ some 59)&&(match s[n+1]? with|some c=>yz c|none=>false)
def iC(s:O):Nat->O×Nat
 |0=>([38],1)
 |n+1=>match fT ((s.drop 1).take (n+1))with
  |none=>iC s n
  |some t=>if VL s (n+1)=true then([38],1)else(t,n+2)
def gX(s:O):O×Nat:=if Lib.hasPrefix s [38,35]=true then vY s else iC s (min 15 (s.length-1))
def na(x:UInt8):Bool:=x != 38
def vm:Nat->O->O
 |0,_=>[]
 |k+1,s=>s.takeWhile na++(if s.dropWhile na=[]then []else(gX (s.dropWhile na)).1++vm k ((s.dropWhile na).drop (gX (s.dropWhile na)).2))
def pl(s:O):O:=vm s.length s
theorem lO{α:Type}{l:List (O×α)}{s:O}{t:α}(h:look l s=some t):(s,t)∈l:=by
 induction l with
 |nil=>cases h
 |cons p l a =>
  unfold look at h
  split at h
  ·next e=>cases h;subst e;exact fA
  exact cN _ (a h)
theorem Jz(s:O):∀ n,1<=(iC s n).2/\(iC s n).2<=n+1
 |0=>⟨ag _,ag _⟩
 |n+1=>by
  have ih:=Jz s n;unfold iC
  split
  ·omega
  split
  ·exact⟨ag _,M0⟩
  exact⟨by show 1<=n+2;omega,ag _⟩
theorem Xz(base:Int):∀ (r:O) (n:Int),(mB base n r).2<=r.length
 | [],n=>ag _
 |x::r,n=>by
  have ih:=Xz base r (uU (n*base+fg (G x) base));unfold mB
  split
  ·exact aL _
  dsimp only;rw[ah];omega
theorem PT{s:O}(h:FT s=true):3<=s.length:=by
 unfold FT at h;rw[decide_eq_true_eq]at h
 have:2<s.length:=by
  rcases h with h|h <;>exact(bh.mp h).1
 omega
theorem XY{s:O}(b:Int){f:Nat}(h0:1<=f)(h:f<=s.length):1<=(Er s b f).2/\(Er s b f).2<=s.length:=by
 have hd:=Xz b (s.drop f) 0;rw[aj]at hd;unfold Er;generalize (mB b 0 (s.drop f)).2=k at hd ⊢
 split
 ·exact⟨ag _,M0⟩
 show 1<=f+k+(if s[f+k]? = some 59 then 1 else 0)/\f+k+(if s[f+k]? = some 59 then 1 else 0)<=s.length
 split
 ·next e =>
  have:=(bh.mp e).1;omega
 omega
theorem a40{s:O}(h:2<=s.length):1<=(vY s).2/\(vY s).2<=s.length:=by
 unfold vY
 split
 ·next e=>exact XY _ M0 (PT e)
 exact XY _ M0 h
theorem wA{s:O}(h:1<=s.length):1<=(gX s).2/\(gX s).2<=s.length:=by
 unfold gX
 split
 ·next e =>
  refine a40 ?_;unfold Lib.hasPrefix at e;have:=(ej.mp e).length_le
  simpa using this
 have:=Jz s (min 15 (s.length-1));omega
theorem nX(c:Int):(enc c).length<=4:=(oN c).2
theorem Pp:∀ p∈CA,p.2.length<=6:=P8
theorem Ku:∀ p∈rU,p.2.length<=6:=P8
theorem LO{s t:O}(h:fT s=some t):t.length<=6:=by
 unfold fT at h
 split at h
 ·next t' e=>cases h;exact Pp _ (lO e)
 split at h
 ·unfold iX at h
  split at h
  ·have e:=bj h
   subst e;exact am (nX _) P8
  exact Ku _ (lO h)
 cases h
theorem yU(s:O):∀ n,(iC s n).1.length<=6
 |0=>by show([38]:O).length<=6;decide
 |n+1=>by
  have a:=yU s n;unfold iC
  split
  ·exact a
  next t e =>
  split
  ·exact(by decide:([38]:O).length<=6)
  exact LO e
theorem VJ(s:O)(b:Int)(f:Nat):(Er s b f).1.length<=6:=by
 unfold Er
 split
 ·exact(by decide:([38]:O).length<=6)
 show(iH _).length<=6;unfold iH
 split
 iterate 2
  ·exact am (nX _) P8
theorem Dv(s:O):(gX s).1.length<=6:=by
 unfold gX
 split
 ·unfold vY
  split <;>exact VJ _ _ _
 exact yU _ _
theorem Cm:∀ (k m:Nat) (s:O),s.length<=k->s.length<=m->vm k s=vm m s
 |0,0,s,_,_=>rfl
 |0,m+1,s,h,_=>by
  obtain rfl:s=[]:=dy.mp M0;rfl
 |k+1,0,s,_,h=>by
  obtain rfl:s=[]:=dy.mp M0;rfl
 |k+1,m+1,s,Y,I=>by
  unfold vm
  split
  ·rfl
  next a =>
  have hl:(s.dropWhile na).length<=s.length:=(ce _).length_le
  have h0:1<=(s.dropWhile na).length:=by
   rcases Nat.eq_zero_or_pos (s.dropWhile na).length with h|h
   ·exact absurd (dy.mp h) a
   exact h
  have hn:=wA h0;rw[Cm k m _ (by rw[aj];omega) (by rw[aj];omega)]
theorem Uz:pl []=[]:=rfl
theorem z0(s:O):pl s=s.takeWhile na++(if s.dropWhile na=[]then []else(gX (s.dropWhile na)).1++pl ((s.dropWhile na).drop (gX (s.dropWhile na)).2)):=by
 cases s with
 |nil=>rfl
 |cons x r =>
  show vm (r.length+1) (x::r)=_;unfold vm
  split
  ·rfl
  next a =>
  have c:((x::r).dropWhile na).length<=(x::r).length:=(ce _).length_le
  have h0:1<=((x::r).dropWhile na).length:=by
   rcases Nat.eq_zero_or_pos ((x::r).dropWhile na).length with h|h
   ·exact absurd (dy.mp h) a
   exact h
  have hn:=wA h0;rw[ah]at c;rw[Cm r.length _ _ (by rw[aj];omega) (ag _)];rfl
theorem Cl{x:UInt8}(r:O)(h:x≠38):pl (x::r)=x::pl r:=by
 have X:na x=true:=by unfold na;simpa using h
 rw[z0 (x::r),z0 r,bJ X,aQ X];rfl
theorem IG(r:O):pl (38::r)=(gX (38::r)).1++pl ((38::r).drop (gX (38::r)).2):=by
 have X:¬ na 38=true:=P8;rw[z0 (38::r),bI X,aX X,if_neg Oc];rfl
theorem uw:∀ (n:Nat) (s:O),s.length<=n->(pl s).length<=6*s.length
 |0,s,h=>by
  obtain rfl:s=[]:=dy.mp M0;exact ag _
 |n+1,[],_=>ag _
 |n+1,x::r,h=>by
  rw[ah]at h;by_cases X:x=38
  ·subst X
   have Y:=wA (s:=38::r) Oc;have I:=Dv (38::r);have a:=uw n ((38::r).drop (gX (38::r)).2) (by rw[aj,ah];omega);rw[aj,ah]at a;rw[IG,ae,ah];omega
  have a:=uw n r M0;rw[Cl r X,ah,ah];omega
end Go.Proofs.YthfkicfjlljjiaaGreatDoor
set_option maxHeartbeats 40000000
namespace Go.Proofs.YthfkicfjlljjiaaGreatDoor
open Tryz
open Go.RowKit
set_option maxRecDepth 10000
theorem rk{o:Option O}{t:O}(h:o=some t):Ending.returned (.tuple #[.string (E t),.bool true])=.returned (.tuple #[S (o.getD []),.bool o.isSome]):=by subst h;rfl
theorem wC{o:Option O}(h:o=none):Ending.returned (.tuple #[.string (E []),.bool false])=.returned (.tuple #[S (o.getD []),.bool o.isSome]):=by subst h;rfl
theorem Po(s:O)(w:H):bP prog 231 #[.string (E s)] w (.tuple #[S ((yv s).getD []),.bool (yv s).isSome]):=by
 obtain⟨b,U⟩:=V (E s);have a:=F (show b.toList=s by rw[U,aB]);rw[<-U];clear U;go_enter func231,ntmps231;go_wp2_with fail
 all_goals
  simp only[a.o,beq_iff_eq,beq_eq_false_iff_ne,ne_eq]at *
  go_ret2
  refine⟨?_,rfl⟩
  first
   |(refine rk ?_;simp_all[yv,CA,look];done)
   |(refine wC ?_;simp_all[yv,CA,look];done)
def nmA:Array Z:=#[.string ⟨#[97,112,111,115]⟩,.int .u8 39,.string ⟨#[99,111,108,111,110]⟩,.int .u8 58,.string ⟨#[115,111,108]⟩,.int .u8 47,.string ⟨#[98,115,111,108]⟩,.int .u8 92,.string ⟨#[113,117,101,115,116]⟩,.int .u8 63,.string ⟨#[110,117,109]⟩,.int .u8 35,.string ⟨#[112,101,114,99,110,116]⟩,.int .u8 37,.string ⟨#[99,111,109,109,97,116]⟩,.int .u8 64,.string ⟨#[101,113,117,97,108,115]⟩,.int .u8 61,.string ⟨#[112,108,117,115]⟩,.int .u8 43,.string ⟨#[99,111,109,109,97]⟩,.int .u8 44,.string ⟨#[112,101,114,105,111,100]⟩,.int .u8 46,.string ⟨#[115,101,109,105]⟩,.int .u8 59,.string ⟨#[101,120,99,108]⟩,.int .u8 33,.string ⟨#[100,111,108,108,97,114]⟩,.int .u8 36,.string ⟨#[97,115,116]⟩,.int .u8 42,.string ⟨#[108,111,119,98,97,114]⟩,.int .u8 95,.string ⟨#[103,114,97,118,101]⟩,.int .u8 96,.string ⟨#[72,97,116]⟩,.int .u8 94,.string ⟨#[108,112,97,114]⟩,.int .u8 40,.string ⟨#[114,112,97,114]⟩,.int .u8 41,.string ⟨#[108,115,113,98]⟩,.int .u8 91,.string ⟨#[114,115,113,98]⟩,.int .u8 93,.string ⟨#[108,99,117,98]⟩,.int .u8 123,.string ⟨#[114,99,117,98]⟩,.int .u8 125,.string ⟨#[118,101,114,98,97,114]⟩,.int .u8 124,.string ⟨#[84,97,98]⟩,.int .u8 9,.string ⟨#[78,101,119,76,105,110,101]⟩,.int .u8 10]
def nmZ:Array Z:=#[.string ⟨#[]⟩,.int .u8 0,.string ⟨#[]⟩,.int .u8 0,.string ⟨#[]⟩,.int .u8 0,.string ⟨#[]⟩,.int .u8 0,.string ⟨#[]⟩,.int .u8 0,.string ⟨#[]⟩,.int .u8 0,.string ⟨#[]⟩,.int .u8 0,.string ⟨#[]⟩,.int .u8 0,.string ⟨#[]⟩,.int .u8 0,.string ⟨#[]⟩,.int .u8 0,.string ⟨#[]⟩,.int .u8 0,.string ⟨#[]⟩,.int .u8 0,.string ⟨#[]⟩,.int .u8 0,.string ⟨#[]⟩,.int .u8 0,.string ⟨#[]⟩,.int .u8 0,.string ⟨#[]⟩,.int .u8 0,.string ⟨#[]⟩,.int .u8 0,.string ⟨#[]⟩,.int .u8 0,.string ⟨#[]⟩,.int .u8 0,.string ⟨#[]⟩,.int .u8 0,.string ⟨#[]⟩,.int .u8 0,.string ⟨#[]⟩,.int .u8 0,.string ⟨#[]⟩,.int .u8 0,.string ⟨#[]⟩,.int .u8 0,.string ⟨#[]⟩,.int .u8 0,.string ⟨#[]⟩,.int .u8 0,.string ⟨#[]⟩,.int .u8 0,.string ⟨#[]⟩,.int .u8 0]
def nmN(k:Nat):O:=(nd.getD k ([],0)).1
def nmC(k:Nat):Nat:=(nd.getD k ([],0)).2
theorem a26(w:H):(Instr.alloc 229 true (Value.tuple #[])).run prog w=.ok (.pointer (some ⟨w.heap.size,0,none⟩)) (w.alloc (.cells nmZ 229)):=Rz
theorem XQ:(prog.info? 229).map (·.size)=some nmA.size:=Rz
theorem a46:nmA.all (·.oneCell')=true:=Rz
theorem a4U{k:Nat}(h:k<28)(w:H):(Instr.index 229 (.agg nmA) (.int .i64 (k:Int))).run prog w=.ok (.agg #[.string (E (nmN k)),.int .u8 (nmC k:Nat)]) w:=by
 rcases(by omega:k=0\/k=1\/k=2\/k=3\/k=4\/k=5\/k=6\/k=7\/k=8\/k=9\/k=10\/k=11\/k=12\/k=13\/k=14\/k=15\/k=16\/k=17\/k=18\/k=19\/k=20\/k=21\/k=22\/k=23\/k=24\/k=25\/k=26\/k=27)with rfl|rfl|rfl|rfl|rfl|rfl|rfl|rfl|rfl|rfl|rfl|rfl|rfl|rfl|rfl|rfl|rfl|rfl|rfl|rfl|rfl|rfl|rfl|rfl|rfl|rfl|rfl|rfl <;>kernel_rfl
theorem VI{k:Nat}(h:k<28)(s:O):look (nd.drop k) s=if s=nmN k then some (nmC k)else look (nd.drop (k+1)) s:=by
 have a:k<nd.length:=h;rw[aC a];unfold nmN nmC;rw[jj,aG a];rfl
theorem Kq(s:O)(w:H):bF prog 248 #[.string (E s)] w (.int .u8 (nN s:Nat)):=by
 obtain⟨b,U⟩:=V (E s);have u:=F (show b.toList=s by rw[U,aB]);rw[<-U];clear U;go_enter func248,ntmps248
 go_wp2_with (first|(refine aM rfl 229 rfl _ _ (a26 _) ?_)|(refine gy rfl 229 _ _ rfl nmA nmZ 229 rfl rfl XQ rfl a46 ?_)|(refine vS rfl 229 _ rfl nmA 229 rfl _ underlying229 rfl XQ ?_))
 go_loopw [36] (λiv wr=>∃ k:Nat,k<=28/\iv=.int .i64 k/\look nd s=look (nd.drop k) s/\r7 w wr) (λi _=>28-(intOf i).toNat)
 exact⟨0,M0,rfl,rfl,(Below.refl _ _).alloc (ag _) _⟩
 obtain⟨k,hk,rfl,f,l⟩:=hrel;have HB:=F l;clear l;by_cases m:k<28
 ·have a:=VI m s
  rw[<-f]at a;clear f;obtain⟨n,q⟩:=V (nmN k);obtain⟨c,p⟩:=V (nmC k);obtain⟨nb,d⟩:=V (E n);have e:=a4U m;rw[<-q,<-p,<-d]at e;rw[<-q,<-p]at a;have v:=F e;by_cases g:s=n
  ·have t:(nb.toList==b.toList)=true:=by rw[d,aB,u.o,g];simp
   have j:nN s=c:=by unfold nN;rw[a,if_pos g];rfl
   have x:=F j;clear j a q p d e g
   go_wp2_with (first|(refine cP rfl 229 _ _ rfl _ _ _ rfl rfl v.o ?_))
   go_ret;exact⟨by rw[x.o];rfl,HB.o.alloc HB.o.size _⟩
  have t:(nb.toList==b.toList)=false:=by rw[d,aB,u.o];simp;exact λh=>g h.symm
  rw[if_neg g]at a;have r:=F a;clear a q p d e g
  go_wp2_with (first|(refine cP rfl 229 _ _ rfl _ _ _ rfl rfl v.o ?_))
  go_roundw
  exact⟨k+1,M0,by go_num,r.o,HB.o.alloc HB.o.size _⟩
  simp[intOf];omega
 obtain rfl:k=28:=M0;have r:=F f;clear f;go_wp2_with fail;go_ret;exact⟨by unfold nN;rw[r.o];rfl,HB.o⟩
def Sc:Array Z:=#[.int .i64 8364,.int .i64 129,.int .i64 8218,.int .i64 402,.int .i64 8222,.int .i64 8230,.int .i64 8224,.int .i64 8225,.int .i64 710,.int .i64 8240,.int .i64 352,.int .i64 8249,.int .i64 338,.int .i64 141,.int .i64 381,.int .i64 143,.int .i64 144,.int .i64 8216,.int .i64 8217,.int .i64 8220,.int .i64 8221,.int .i64 8226,.int .i64 8211,.int .i64 8212,.int .i64 732,.int .i64 8482,.int .i64 353,.int .i64 8250,.int .i64 339,.int .i64 157,.int .i64 382,.int .i64 376]
def shZ:Array Z:=#[.int .i64 0,.int .i64 0,.int .i64 0,.int .i64 0,.int .i64 0,.int .i64 0,.int .i64 0,.int .i64 0,.int .i64 0,.int .i64 0,.int .i64 0,.int .i64 0,.int .i64 0,.int .i64 0,.int .i64 0,.int .i64 0,.int .i64 0,.int .i64 0,.int .i64 0,.int .i64 0,.int .i64 0,.int .i64 0,.int .i64 0,.int .i64 0,.int .i64 0,.int .i64 0,.int .i64 0,.int .i64 0,.int .i64 0,.int .i64 0,.int .i64 0,.int .i64 0]
theorem Xi(w:H):(Instr.alloc 227 true (Value.tuple #[])).run prog w=.ok (.pointer (some ⟨w.heap.size,0,none⟩)) (w.alloc (.cells shZ 227)):=Rz
theorem XR:(prog.info? 227).map (·.size)=some Sc.size:=Rz
theorem XZ:Sc.all (·.oneCell')=true:=Rz
theorem Uo(w:H)(T:TypeId)(cs:Array Z)(j:Nat):(w.alloc (.cells cs T)).cell? ⟨w.heap.size,j,none⟩=cs[j]?:=by simp only[World.cell?,heap_alloc_new];rfl
theorem a0Q{k:Nat}(h:k<32):Sc[k]? = some (.int .i64 (y8.getD k 0:Nat)):=by
 have a:k<y8.length:=h;have e:Sc=(y8.map λc=>Value.int .i64 (c:Nat)).toArray:=Rz;rw[e,cf,eW,aG a,jj,aG a];rfl
theorem Mp(n:Int)(w:H):bF prog 247 #[.int .i64 n] w (.int .i64 (tL n)):=by
 by_cases h:128<=n/\n<=159
 ·obtain⟨k,rfl⟩:∃ k:Nat,n=(k:Int)+128:=⟨(n-128).toNat,M0⟩
  have q:k<32:=M0;have hw:IntKind.i64.wrap ((k:Int)+128-128)=(k:Int):=by rw[show(k:Int)+128-128=k by omega];exact IntWalk.i64_in _ M0
  have e:tL ((k:Int)+128)=((y8.getD k 0:Nat):Int):=by
   unfold tL;rw[if_pos h,show((k:Int)+128-128).toNat=k by omega]
  obtain⟨v,j⟩:=V (y8.getD k 0);obtain⟨l,c⟩:=V ((k:Int)+128);have a:=a0Q q;rw[<-c]at hw e ⊢;rw[<-j]at e a;have f:=F e;have p:=F a;have Y:128<=l:=M0;have I:l<=159:=M0;clear e j a h c;go_enter func247,ntmps247
  go_upto_region 2 with(first|(refine aM rfl 227 rfl _ _ (Xi _) ?_)|(refine gy rfl 227 _ _ rfl Sc shZ 227 rfl rfl XR rfl XZ ?_))
  have hcell:=(Uo w 227 Sc k).trans p.o;have HB:=F<|(Below.refl w.heap.size w).alloc (ag _) (.cells Sc 227);obtain⟨g,i⟩:=V (w.heap.size);obtain⟨w1,d⟩:=V (w.alloc (.cells Sc 227));rw[<-d]at hcell HB ⊢;rw[<-i]at hcell HB ⊢;have m:=F i;clear i d;go_wp2_with fail;go_ret;exact⟨by rw[f.o];rfl,by rw[m.o]at HB;exact HB.o⟩
 have f:=F (show tL n=n by unfold tL;rw[if_neg h]);have r:(128<=n/\159<n)\/n<128:=M0;rcases r with⟨Y,I⟩|Y
 all_goals
  clear h;go_enter func247,ntmps247
  go_wp2_with (first|(refine aM rfl 227 rfl _ _ (Xi _) ?_)|(refine gy rfl 227 _ _ rfl Sc shZ 227 rfl rfl XR rfl XZ ?_))
  go_ret;exact⟨by rw[f.o];rfl,(Below.refl _ _).alloc (ag _) _⟩
