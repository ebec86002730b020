/- The walks of entity's names: free, boundByte, bound, shown (written by genEntC.py). -/
import Derived.Deep.Cut
import Derived.Test.YtmndlfglgcioeaaGreatDoorEGEntA
import Derived.Test.YtmndlfglgcioeaaGreatDoorEGArr
set_option maxHeartbeats 40000000
namespace Go.Proofs.YtmndlfglgcioeaaGreatDoor
open Tryz
open Go.RowKit
set_option maxRecDepth 10000
theorem r5{o:Option Bytes}{t:Bytes}(h:o=some t):Ending.returned (.tuple #[.string (bs t),.bool true])=.returned (.tuple #[S (o.getD []),.bool o.isSome]):=by subst h;rfl
theorem xt{o:Option Bytes}(h:o=none):Ending.returned (.tuple #[.string (bs []),.bool false])=.returned (.tuple #[S (o.getD []),.bool o.isSome]):=by subst h;rfl
theorem QD(s:Bytes)(w:World):bV prog 153 #[.string (bs s)] w (.tuple #[S ((wu s).getD []),.bool (wu s).isSome]):=by
 obtain⟨b,hb⟩:=az (bs s);have E:=h_ (show b.toList=s by rw[hb,ay]);rw[<-hb];clear hb;go_enter func153,ntmps153
 go_wp2_with fail
 all_goals
  simp only[E.out,beq_iff_eq,beq_eq_false_iff_ne,ne_eq]at *
  go_ret2
  refine⟨?_,rfl⟩
  first
   |(refine r5 ?_;simp_all[wu,za,look];done)
   |(refine xt ?_;simp_all[wu,za,look];done)
def nmA:Array Value:=#[.string ⟨#[97,112,111,115]⟩,.int .u8 39,.string ⟨#[99,111,108,111,110]⟩,.int .u8 58,.string ⟨#[115,111,108]⟩,.int .u8 47,.string ⟨#[98,115,111,108]⟩,.int .u8 92,.string ⟨#[113,117,101,115,116]⟩,.int .u8 63,.string ⟨#[110,117,109]⟩,.int .u8 35,.string ⟨#[112,101,114,99,110,116]⟩,.int .u8 37,.string ⟨#[99,111,109,109,97,116]⟩,.int .u8 64,.string ⟨#[101,113,117,97,108,115]⟩,.int .u8 61,.string ⟨#[112,108,117,115]⟩,.int .u8 43,.string ⟨#[99,111,109,109,97]⟩,.int .u8 44,.string ⟨#[112,101,114,105,111,100]⟩,.int .u8 46,.string ⟨#[115,101,109,105]⟩,.int .u8 59,.string ⟨#[101,120,99,108]⟩,.int .u8 33,.string ⟨#[100,111,108,108,97,114]⟩,.int .u8 36,.string ⟨#[97,115,116]⟩,.int .u8 42,.string ⟨#[108,111,119,98,97,114]⟩,.int .u8 95,.string ⟨#[103,114,97,118,101]⟩,.int .u8 96,.string ⟨#[72,97,116]⟩,.int .u8 94,.string ⟨#[108,112,97,114]⟩,.int .u8 40,.string ⟨#[114,112,97,114]⟩,.int .u8 41,.string ⟨#[108,115,113,98]⟩,.int .u8 91,.string ⟨#[114,115,113,98]⟩,.int .u8 93,.string ⟨#[108,99,117,98]⟩,.int .u8 123,.string ⟨#[114,99,117,98]⟩,.int .u8 125,.string ⟨#[118,101,114,98,97,114]⟩,.int .u8 124,.string ⟨#[84,97,98]⟩,.int .u8 9,.string ⟨#[78,101,119,76,105,110,101]⟩,.int .u8 10]
def nmZ:Array Value:=#[.string ⟨#[]⟩,.int .u8 0,.string ⟨#[]⟩,.int .u8 0,.string ⟨#[]⟩,.int .u8 0,.string ⟨#[]⟩,.int .u8 0,.string ⟨#[]⟩,.int .u8 0,.string ⟨#[]⟩,.int .u8 0,.string ⟨#[]⟩,.int .u8 0,.string ⟨#[]⟩,.int .u8 0,.string ⟨#[]⟩,.int .u8 0,.string ⟨#[]⟩,.int .u8 0,.string ⟨#[]⟩,.int .u8 0,.string ⟨#[]⟩,.int .u8 0,.string ⟨#[]⟩,.int .u8 0,.string ⟨#[]⟩,.int .u8 0,.string ⟨#[]⟩,.int .u8 0,.string ⟨#[]⟩,.int .u8 0,.string ⟨#[]⟩,.int .u8 0,.string ⟨#[]⟩,.int .u8 0,.string ⟨#[]⟩,.int .u8 0,.string ⟨#[]⟩,.int .u8 0,.string ⟨#[]⟩,.int .u8 0,.string ⟨#[]⟩,.int .u8 0,.string ⟨#[]⟩,.int .u8 0,.string ⟨#[]⟩,.int .u8 0,.string ⟨#[]⟩,.int .u8 0,.string ⟨#[]⟩,.int .u8 0,.string ⟨#[]⟩,.int .u8 0,.string ⟨#[]⟩,.int .u8 0]
def nmN(k:Nat):Bytes:=(mB.getD k ([],0)).1
def nmC(k:Nat):Nat:=(mB.getD k ([],0)).2
theorem a3v(w:World):(Instr.alloc 187 true (Value.tuple #[])).run prog w=.ok (.pointer (some ⟨w.heap.size,0,none⟩)) (w.alloc (.cells nmZ 187)):=by kernel_rfl
theorem Yz:(prog.info? 187).map (·.size)=some nmA.size:=by kernel_rfl
theorem a5G:nmA.all (·.oneCell')=true:=by kernel_rfl
theorem a5j{k:Nat}(h:k<28)(w:World):(Instr.index 187 (.agg nmA) (.int .i64 (k:Int))).run prog w=.ok (.agg #[.string (bs (nmN k)),.int .u8 (nmC k:Nat)]) w:=by
 rcases(by omega:k=0∨k=1∨k=2∨k=3∨k=4∨k=5∨k=6∨k=7∨k=8∨k=9∨k=10∨k=11∨k=12∨k=13∨k=14∨k=15∨k=16∨k=17∨k=18∨k=19∨k=20∨k=21∨k=22∨k=23∨k=24∨k=25∨k=26∨k=27)with rfl|rfl|rfl|rfl|rfl|rfl|rfl|rfl|rfl|rfl|rfl|rfl|rfl|rfl|rfl|rfl|rfl|rfl|rfl|rfl|rfl|rfl|rfl|rfl|rfl|rfl|rfl|rfl <;>kernel_rfl
theorem WG{k:Nat}(h:k<28)(s:Bytes):look (mB.drop k) s=if s=nmN k then some (nmC k)else look (mB.drop (k+1)) s:=by
 have hl:k<mB.length:=h;rw[aq hl];unfold nmN nmC;rw[eH,aJ hl];rfl
theorem Lw(s:Bytes)(w:World):bN prog 179 #[.string (bs s)] w (.int .u8 (nR s:Nat)):=by
 obtain⟨b,hb⟩:=az (bs s);have E:=h_ (show b.toList=s by rw[hb,ay]);rw[<-hb];clear hb;go_enter func179,ntmps179
 go_wp2_with (first
  |(refine aS rfl 187 rfl _ _ (a3v _) ?_)
  |(refine gD rfl 187 _ _ rfl nmA nmZ 187 rfl rfl Yz rfl a5G ?_)
  |(refine wY rfl 187 _ rfl nmA 187 rfl _ underlying187 rfl Yz ?_)
  |fail)
 go_loopw [36] (fun iv wr=>∃ k:Nat,k<=28∧iv=.int .i64 k∧look mB s=look (mB.drop k) s∧Below w.heap.size w wr) (fun i _=>28-(intOf i).toNat)
 case atStart=>exact⟨0,by omega,rfl,rfl,(Below.refl _ _).alloc (af _) _⟩
 case round =>
  obtain⟨k,hk,rfl,hno,hbl⟩:=hrel;have HB:=h_ hbl;clear hbl;by_cases hlt:k<28
  ·have hst:=WG hlt s
   rw[<-hno]at hst;clear hno;obtain⟨n,hn⟩:=az (nmN k);obtain⟨c,hc⟩:=az (nmC k);obtain⟨nb,hnb⟩:=az (bs n);have hix:=a5j hlt;rw[<-hn,<-hc,<-hnb]at hix;rw[<-hn,<-hc]at hst;have IX:=h_ hix;by_cases hs:s=n
   ·have hcm:(nb.toList==b.toList)=true:=by rw[hnb,ay,E.out,hs];simp
    have hbf:nR s=c:=by unfold nR;rw[hst,if_pos hs];rfl
    have HF:=h_ hbf;clear hbf hst hn hc hnb hix hs
    go_wp2_with (first
     |(refine cO rfl 187 _ _ rfl _ _ _ rfl rfl IX.out ?_)
     |fail)
    go_ret;exact⟨by rw[HF.out];rfl,HB.out.alloc HB.out.size _⟩
   have hcm:(nb.toList==b.toList)=false:=by rw[hnb,ay,E.out];simp;exact fun h=>hs h.symm
   rw[if_neg hs]at hst;have HT:=h_ hst;clear hst hn hc hnb hix hs
   go_wp2_with (first
    |(refine cO rfl 187 _ _ rfl _ _ _ rfl rfl IX.out ?_)
    |fail)
   go_roundw
   case rel=>exact⟨k+1,by omega,by go_num,HT.out,HB.out.alloc HB.out.size _⟩
   case measure=>simp[intOf];omega
  obtain rfl:k=28:=by omega
  have HT:=h_ hno;clear hno
  go_wp2_with fail
  go_ret;exact⟨by unfold nR;rw[HT.out];rfl,HB.out⟩
def Xd:Array Value:=#[.int .i64 8364,.int .i64 129,.int .i64 8218,.int .i64 402,.int .i64 8222,.int .i64 8230,.int .i64 8224,.int .i64 8225,.int .i64 710,.int .i64 8240,.int .i64 352,.int .i64 8249,.int .i64 338,.int .i64 141,.int .i64 381,.int .i64 143,.int .i64 144,.int .i64 8216,.int .i64 8217,.int .i64 8220,.int .i64 8221,.int .i64 8226,.int .i64 8211,.int .i64 8212,.int .i64 732,.int .i64 8482,.int .i64 353,.int .i64 8250,.int .i64 339,.int .i64 157,.int .i64 382,.int .i64 376]
def shZ:Array Value:=#[.int .i64 0,.int .i64 0,.int .i64 0,.int .i64 0,.int .i64 0,.int .i64 0,.int .i64 0,.int .i64 0,.int .i64 0,.int .i64 0,.int .i64 0,.int .i64 0,.int .i64 0,.int .i64 0,.int .i64 0,.int .i64 0,.int .i64 0,.int .i64 0,.int .i64 0,.int .i64 0,.int .i64 0,.int .i64 0,.int .i64 0,.int .i64 0,.int .i64 0,.int .i64 0,.int .i64 0,.int .i64 0,.int .i64 0,.int .i64 0,.int .i64 0,.int .i64 0]
theorem Ya(w:World):(Instr.alloc 185 true (Value.tuple #[])).run prog w=.ok (.pointer (some ⟨w.heap.size,0,none⟩)) (w.alloc (.cells shZ 185)):=by kernel_rfl
theorem YA:(prog.info? 185).map (·.size)=some Xd.size:=by kernel_rfl
theorem YH:Xd.all (·.oneCell')=true:=by kernel_rfl
theorem Vy(w:World)(T:TypeId)(cs:Array Value)(j:Nat):(w.alloc (.cells cs T)).cell? ⟨w.heap.size,j,none⟩=cs[j]?:=by simp only[World.cell?,heap_alloc_new];rfl
theorem a1A{k:Nat}(h:k<32):Xd[k]? = some (.int .i64 (zS.getD k 0:Nat)):=by
 have hl:k<zS.length:=h;have e:Xd=(zS.map fun c=>Value.int .i64 (c:Nat)).toArray:=by kernel_rfl
 rw[e,bT,eI,aJ hl,eH,aJ hl];rfl
theorem Nx(n:Int)(w:World):bN prog 178 #[.int .i64 n] w (.int .i64 (r6 n)):=by
 by_cases h:128<=n∧n<=159
 ·obtain⟨k,rfl⟩:∃ k:Nat,n=(k:Int)+128:=⟨(n-128).toNat,by omega⟩
  have hk:k<32:=by omega
  have hw:IntKind.i64.wrap ((k:Int)+128-128)=(k:Int):=by rw[show(k:Int)+128-128=k by omega];exact IntWalk.i64_in _ (by omega)
  have hs:r6 ((k:Int)+128)=((zS.getD k 0:Nat):Int):=by
   unfold r6;rw[if_pos h,show((k:Int)+128-128).toNat=k by omega]
  obtain⟨v,hv⟩:=az (zS.getD k 0);obtain⟨nn,hnn⟩:=az ((k:Int)+128);have hsk:=a1A hk;rw[<-hnn]at hw hs ⊢;rw[<-hv]at hs hsk;have HS:=h_ hs;have HK:=h_ hsk;have h1:128<=nn:=by omega
  have h2:nn<=159:=by omega
  clear hs hv hsk h hnn;go_enter func178,ntmps178
  go_upto_region 2 with(first
   |(refine aS rfl 185 rfl _ _ (Ya _) ?_)
   |(refine gD rfl 185 _ _ rfl Xd shZ 185 rfl rfl YA rfl YH ?_)
   |fail)
  have hcell:=(Vy w 185 Xd k).trans HK.out;have HB:=h_ ((Below.refl w.heap.size w).alloc (af _) (.cells Xd 185));obtain⟨g,hg⟩:=az (w.heap.size);obtain⟨w1,hw1⟩:=az (w.alloc (.cells Xd 185));rw[<-hw1]at hcell HB ⊢;rw[<-hg]at hcell HB ⊢;have HG:=h_ hg;clear hg hw1
  go_wp2_with fail
  go_ret;exact⟨by rw[HS.out];rfl,by rw[HG.out]at HB;exact HB.out⟩
 have HS:=h_ (show r6 n=n by unfold r6;rw[if_neg h]);have hn:(128<=n∧159<n)∨n<128:=by omega
 rcases hn with⟨h1,h2⟩|h1
 all_goals
  clear h;go_enter func178,ntmps178
  go_wp2_with (first
   |(refine aS rfl 185 rfl _ _ (Ya _) ?_)
   |(refine gD rfl 185 _ _ rfl Xd shZ 185 rfl rfl YA rfl YH ?_)
   |fail)
  go_ret;exact⟨by rw[HS.out];rfl,(Below.refl _ _).alloc (af _) _⟩
end Go.Proofs.YtmndlfglgcioeaaGreatDoor
