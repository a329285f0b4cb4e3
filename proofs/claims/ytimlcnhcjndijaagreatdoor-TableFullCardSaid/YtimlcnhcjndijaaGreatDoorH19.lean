/- Parts of a proof. No condition. -/
import Derived.Test.YtimlcnhcjndijaaGreatDoorH01
import Derived.Deep.RegionHeld3
import Derived.Deep.AppendLies
import Derived.Deep.RegionLawGrows
import Derived.Lib.SmallJoins
set_option linter.all false
set_option maxRecDepth 100000
set_option maxHeartbeats 1600000
namespace Go.Proofs.YtimlcnhcjndijaaGreatDoor
open Option renaming some->O,none->I
open IntKind renaming i64->G
open Value renaming int->Z,slice->V,pointer->K,bool->Y,tuple->D
open Ending renaming returned->Q
open Obj renaming cells->J
open Go renaming World->WD,Value->VL,Calls->CS
open Go.RowKit renaming Below->BW
open Go.Proofs.Tryz
namespace Pl
open Go.RowKit
variable{fr t_o:Int}{M l:List St}{b c cap k m n p:Nat}{P:Program}{V9q whole:V4}{w w':WD}
def X9:(prog.info? 398).map (λi=>(i.zero,i.size,i.bytes))=O (O (.agg #[Z G 0,Z G 0,Z G 0,Z G 0,Z G 0]),5,40):=by kernel_rfl
structure Mod (S:Nat->Prop) (w w':WD):Prop where
 os:w'.os=w.os
 tape:w'.tape=w.tape
 output:w'.output=w.output
 size:w.heap.size<=w'.heap.size
 block:∀k,k<w.heap.size->¬S k->w'.heap[k]?=w.heap[k]?
def Kl (l:List St) (k:Nat) (t:Int):List St:=l.take (k+1)++⟨t,(nth l k).f⟩::l.drop (k+1)
def Agw (pb sb cap:Nat) (whole:V4) (l:List St) (t:Int) (w:WD) (e:Ending) (w':WD):Prop:=
 ∃(n k sb' cap':Nat) (l':List St),e=Q (Z G n)/\Kk l t k/\(((nth l k).t=t/\l'=l/\n=k/\sb'=sb/\cap'=cap)\/((nth l k).t≠t/\l'=Kl l k t/\n=k+1/\w.heap.size<=sb')) /\
  Ce w' pb sb' cap' whole l'/\Mod (·=pb) w w'
def Ard (w:WD) (B:Nat) (s:St) (a:B<=w.heap.size):(w.alloc (J s.cells.toArray 398)).ownsRow B 398 5 (V (O ⟨w.heap.size,0,I⟩) 1 1) 1 s.cells:=
 ⟨rfl,.inr ⟨w.heap.size,1,s.cells.toArray,rfl,a,heap_alloc_new w _,Nat.le_refl _,ad9,rfl,rfl⟩⟩
def Row.tail  {a cap:Nat}  (h:Row w a cap l) (n:Nat) (k:n<=l.length):∀(j:Nat) (u:VL),(Bd (l.drop n))[j]?=O u->w.cell? ((⟨a,n*5,I⟩:Addr).add j)=O u:=by
 intro j u d;have i:=(Ap.1 d).1;rw[Od,Iv]at i
 have e:(⟨a,n*5,I⟩:Addr).add j=⟨a,n*5+j,I⟩:=by unfold Addr.add;split<;>simp_all
 have c:Bd l=Bd (l.take n)++Bd (l.drop n):=by rw[<-Abg,Ti]
 obtain⟨b,g,o,m⟩:=h.ar;rw[e,Aa g]
 have:(Bd l)[n*5+j]?=b[n*5+j]?:=by rw[<-m,Lr,Ad ao9];simp
 rw[<-this,c,Gb (by rw[Od,Dt];omega),Od,Dt];have f:n*5+j-min n l.length*5=j:=by rw[Mw k];omega
 rw[f];exact d
def Row.front  {a cap:Nat}  (h:Row w a cap l) (n:Nat) (k:n<=l.length):∀(j:Nat) (u:VL),(Bd (l.take n))[j]?=O u->w.cell? ((⟨a,0,I⟩:Addr).add j)=O u:=by
 intro j u d;have g:=(Ap.1 d).1;rw[Od,Dt]at g
 have e:(⟨a,0,I⟩:Addr).add j=⟨a,j,I⟩:=by unfold Addr.add;split<;>simp_all
 have c:Bd l=Bd (l.take n)++Bd (l.drop n):=by rw[<-Abg,Ti]
 obtain⟨b,f,m,i⟩:=h.ar;rw[e,Aa f]
 have:(Bd l)[j]?=b[j]?:=by rw[<-i,Lr,Ad ao9];simp
 rw[<-this,c,Es (by rw[Od,Dt];omega)];exact d
def Agx (l:List St):∀u∈Bd l,u.oneCell'=true:=by
 intro u b;simp only[Bd,List.mem_flatMap]at b;obtain⟨s,_,a⟩:=b;simp[St.cells]at a
 rcases a with rfl|rfl|rfl|rfl|rfl<;>rfl
def Are  {r:Array Oper} {o:Oper} {a:Act}  {K9q:Act->WD->Prop} {Q9q:Exit->Act->WD->Prop} {E9q:Prop} (al:o.guard=I) (s x:Operand) (t:TypeId)
  (ho:o.op=.call { callee:=.builtin .append,args:=#[s,x],argTypes:=#[t,t] })
  (base:Nat) (e:TypeId) (i:TypeInfo) (z:VL) (size d:Nat) (ht:P.underlying t=O (.slice e)) (hi:P.info? e=O i) (hz:i.zero=O z)
  (p:i.size=size) (af:i.bytes=d) (an:z.cells.size=size) (am:0<size)
  (v:VL) (n:Nat) (xs:List VL) (hs:a.eval s=v) (q:w.ownsRow base e size v n xs)
  (y:Addr) (m c:Nat) (b:List VL) (hx:a.eval x=V (O y) m c) (hl:b.length=m*size) (l:∀j u,b[j]?=O u->w.cell? (y.add j)=O u) (h1:∀u∈b,u.oneCell'=true)
  (hn:0<n) (ac:n+m<=maxLen) (f:(n+m)*d<=140737488355328) (k:base<=w.heap.size)
  (h:∀g cap w',w'.ownsRow base e size (V (O ⟨g,0,I⟩) (n+m) cap) (n+m) (xs++b)->w.grownBy w' v.ownBlock->K9q (a.put o.dst (V (O ⟨g,0,I⟩) (n+m) cap)) w') :
  if Region.wanted o (yielded r a.tmps)=true then Oper.wp P o a w K9q Q9q else E9q:=by
 have hw:Region.wanted o (yielded r a.tmps)=true:=by simp[Region.wanted,al]
 rw[Ad hw]
 exact wp_append_own w s x t ho base e i z size d ht hi hz p af an am v n xs hs q y m c b hx hl l h1 ac f k λv' w' h2 h3 _=>by
  obtain⟨g,cap,rfl⟩:=Joins.ownsRow_form h2 ao9;exact h g cap w' h2 h3
def Abh (l:List St) (k:Nat) (t:Int) (a:k<l.length):(Kl l k t).length=l.length+1:=by
 simp[Kl];omega
def Arf (l:List St) (k:Nat) (t:Int):Bd (Kl l k t)=Bd (l.take (k+1))++((⟨t,(nth l k).f⟩:St).cells++Bd (l.drop (k+1))):=by
 simp[Kl,Bd]
def Row.sh  {base g cap n:Nat}  {xs:List VL} (h:w.ownsRow base 398 5 (V (O ⟨g,0,I⟩) n cap) n xs) (i:n=l.length) (o:xs=Bd l):Row w g cap l/\base<=g:=by
 obtain⟨_,h|⟨p,b,a,m,c,e,d,f,j,k⟩⟩:=h
 .cases h.1
 .cases m;subst i;refine⟨⟨d,?_,a,e,j,k.trans o⟩,c⟩;simpa only[maxLen]using f
def Mod.ag {S:Nat->Prop}  (h:BW w.heap.size w w'):Mod S w w':=⟨h.os,h.tape,h.output,h.size,λk a _=>h.block k a⟩
def Mod.refl (S:Nat->Prop) (w:WD):Mod S w w:=⟨rfl,rfl,rfl,Nat.le_refl _,λ_ _ _=>rfl⟩
def Mod.trans {S:Nat->Prop} {w w1 e:WD} (h:Mod S w w1) (a:Mod (λk=>S k\/w.heap.size<=k) w1 e):Mod S w e:=
 ⟨a.os.trans h.os,a.tape.trans h.tape,a.output.trans h.output,Aw h.size a.size,λk d b=>(a.block k (B4 d h.size) (λc=>by rcases c with c|c;exact b c;omega)).trans (h.block k d b)⟩
def Mod.mono {S S':Nat->Prop}  (h:Mod S w w') (d:∀k,k<w.heap.size->S k->S' k):Mod S' w w':=⟨h.os,h.tape,h.output,h.size,λk a b=>h.block k a λc=>b (d k a c)⟩
def Mod.setCell {S:Nat->Prop} (w:WD) (b o:Nat) (v:VL) (a:S b):Mod S w (w.setCell ⟨b,o,I⟩ v):=
 ⟨rfl,rfl,rfl,by simp[World.setCell],λk _ c=>Ci _ _ _ _ (λe=>c (by simpa[e]using a))⟩
def Mod.grown {S:Nat->Prop}  {row:Option Nat} (h:w.grownBy w' row) (c:∀k,row=O k->S k):Mod S w w':=
 ⟨h.os,h.tape,h.output,h.size,λk b a=>h.block k b λe=>a (c k e.symm)⟩
def Mod.alloc (S:Nat->Prop) (w:WD) (o:Obj):Mod S w (w.alloc o):=Mod.ag Bn
def Mod.drew {S:Nat->Prop}  (h:Mod S w w'):Mod S w w'.drew:=⟨h.os,h.tape,h.output,h.size,h.block⟩
def Arg {h v cap:Nat}   {t:Int} {w d r s:WD}  {X:Obj} {c1 c2:Nat}
  (j:BW w.heap.size w d) (_hpb:h<w.heap.size) (n:Ce d h v cap whole l) (q:Kk l t k) (ht:(nth l k).t≠t) (hm:m=l.length-(k+1))
  (a:(d.alloc X).drew.grownBy r (Value.slice (O ⟨d.heap.size,0,I⟩) c1 c2).ownBlock) (b:r.grownBy s I)
  (i:s.ownsRow r.heap.size 398 5 (V (O ⟨p,0,I⟩) (k+1+(1+m)) c) (k+1+(1+m)) (Bd (l.take (k+1))++((⟨t,(nth l k).f⟩:St).cells++Bd (l.drop (k+1)))))
  {e:Ending} (he:e=Q (Z G ((k:Int)+1))) :
  Agw h v cap whole l t w e (s.setCell ⟨h,4,I⟩ (V (O ⟨p,0,I⟩) (k+1+(1+m)) c)):=by
 have u:=q.1;have g:k+1+(1+m)=(Kl l k t).length:=by rw[Abh l k t u];omega
 obtain⟨x,hg⟩:=Row.sh i g (Arf l k t).symm;have o:=Ac n.head;have s1:d.heap.size<(d.alloc X).drew.heap.size:=as9
 have s2:=a.size;have s3:=j.size;have y:=(a.block h ao9 (by simp[Value.ownBlock];omega)).trans (Gd d X h o);have z:=b.block h ao9 as9;refine⟨k+1,k,p,c,Kl l k t,by rw[he];simp,q,.inr ⟨ht,rfl,rfl,ao9⟩,⟨?_,?_,ao9⟩,?_⟩
 .rw [Am ((z.trans y).trans n.head)];simp[g]
 .exact x.of_block (Ci _ _ _ _ (show p≠h by omega))
 .refine Mod.trans (w1:=d) (Mod.ag j) ?_;refine Mod.trans (w1:=s) ?_ (Mod.setCell _ _ _ _ (.inl (.inl rfl)));refine Mod.trans (w1:=r) ?_ (Mod.grown b as9);refine Mod.trans (w1:=(d.alloc X).drew) (Mod.drew (Mod.alloc _ _ _)) (Mod.grown a ?_);intro k q;simp[Value.ownBlock]at q;omega
def Arh (q d cap:Nat) (whole:V4) (l:List St) (t:Int) (w:WD) (z:Ce w q d cap whole l) (hl:B9 l) (h3:0<=t) (h4:t<=1099511627776) :
  CS prog 315 #[K (O ⟨q,0,I⟩),Z G t] w (Agw q d cap whole l t w):=by
 have aK:=hl.len;replace⟨z,hl⟩:=H2 z hl;obtain⟨i0,y,ap,al,av⟩:=B6 X9;go_enter func315,ntmps315;go_wp2_with fail;refine(X8 q d cap whole l t w z.out hl.out h3 h4).mono ?_;rintro e o ⟨k,rfl,hk,r⟩;have c:Ce o q d cap whole l:=⟨Ae r z.head (Ac z.head),z.row.below r z.row.lt,z.ne⟩;have aC:=hk.1;have aJ:(k:Int)<l.length:=ao9
 replace⟨hk,r⟩:=H2 hk r;have p4:=Aa c.head 4;have pf:=Ag c.head 4;simp at p4;obtain⟨c0,c1,c2,c3,c4⟩:=c.row.cells aC;have aI:=c.row.le;have aB:=c.row.max;have lp:=Ac c.head;have ls:=c.row.lt;replace c:=Hh c;by_cases ht:(nth l k).t=t
 .have aG:((nth l k).t == t)=true:=by simpa using ht
  replace ht:=Hh ht;go_wp2;go_ret;exact⟨k,k,d,cap,l,rfl,hk.out,.inl ⟨ht.out,rfl,rfl,rfl,rfl⟩,c.out,Mod.ag r.out⟩
 .have aG:((nth l k).t == t)=false:=by simpa using ht
  replace ht:=Hh ht;go_wp2_with fail;have aE:=Aqz (i:=i0) Ls y d l.length cap (k+1) ((k:Int)+1) ao9 ao9;obtain⟨ta,m,mc,aF,ac,hm⟩:∃ta m mc,(∀w,(Instr.slice 361 (V (O ⟨d,0,I⟩) l.length cap) (O (Z G ((k:Int)+1))) I I).run prog w=.ok (V (O ta) m mc) w)/\(k+1<cap->ta=⟨d,(k+1)*i0.size,I⟩)/\Hid (m=l.length-(k+1)):=by obtain⟨ta,h1,h2⟩:=Tz (i:=i0) Ls y d l.length cap (k+1) ((k:Int)+1) ao9 ao9;exact⟨ta,_,_,h1,h2,rfl⟩
  rw[al]at ac;replace ac:=Hh ac;have aD:=hm.out;have q1:=Hh (show(Bd (l.drop (k+1))).length=m*5 by rw[Od,Iv,hm.out])
  have q2:Hid (∀j u,(Bd (l.drop (k+1)))[j]?=O u->((o.alloc (J (⟨t,(nth l k).f⟩:St).cells.toArray 398)).drew).cell? (ta.add j)=O u):=by
   have h:=c.row.tail (k+1) ao9;intro j u hu;have hj:=(Ap.1 hu).1;rw[Od,Iv]at hj;have h2:=h j u hu;rw[ac ao9];refine(Bl (w:=o) ?_).trans h2
   have e:((⟨d,(k+1)*5,I⟩:Addr).add j).block=d:=by unfold Addr.add;split<;>rfl
   rw[e];exact Gd o _ d ls
  have q3:=Hh (show 1+m<=maxLen by simp only[maxLen];omega);have q4:=Hh (show(1+m)*40<=140737488355328 by omega);have q6:=Hh (show(Bd (l.take (k+1))).length=(k+1)*5 by rw[Od,Dt,Mw ao9]);have q7:=Hh (c.row.front (k+1) ao9);clear aD;have ad:=trivial;have s:q<(o.alloc (J (⟨t,(nth l k).f⟩:St).cells.toArray 398)).drew.heap.size:=by simp;omega
  have am:d<(o.alloc (J (⟨t,(nth l k).f⟩:St).cells.toArray 398)).drew.heap.size:=by simp;omega
  have x:O q≠(Value.slice (O ⟨o.heap.size,0,I⟩) 1 1).ownBlock:=by simp[Value.ownBlock];omega
  have an:O d≠(Value.slice (O ⟨o.heap.size,0,I⟩) 1 1).ownBlock:=by simp[Value.ownBlock];omega
  replace⟨s,am,x,an⟩:=H4 s am x an;go_region_law
    (first
      | (have _t:=ad;refine Are (by rfl) _ _ _ (by rfl) (o.heap.size) 398 i0 _ 5 40 Ls y ap al av rfl ao9 _ 1 ((⟨t,(nth l k).f⟩:St).cells) (by rfl) ((Ard o o.heap.size ⟨t,(nth l k).f⟩ Ln).drew)
          ta m mc (Bd (l.drop (k+1))) (by rfl) q1.out q2.out (Agx _) ao9 q3.out q4.out as9 ?_
         intro g ao w3 p a;have aL:w3.cell? ⟨q,4,I⟩=O (V (O ⟨d,0,I⟩) l.length cap):=by rw[a.cell_far _ s.out x.out,Bl (w:=o) (Gd o _ q lp)];exact p4
         clear ad)
      | (have _t:=p;have hg:=a.size
         have aA:q<w3.heap.size:=by have:=s.out;simp at this hg;omega
         have s1:∀b,O (⟨d,0,I⟩:Addr)=O b->∀j u,(Bd (l.take (k+1)))[j]?=O u->w3.cell? (b.add j)=O u:=by
           intro b hb j u hu;cases hb;have h1:=q7 j u hu
           have af:((⟨d,0,I⟩:Addr).add j).block=d:=by unfold Addr.add;split<;>rfl
           rw[a.cell_far _ (by rw[af];exact am.out) (by rw[af];exact an.out)];rw[Bl (w:=o) (by rw[af];exact Gd o _ d ls)];exact h1
         have s2:∀u∈(⟨t,(nth l k).f⟩:St).cells++Bd (l.drop (k+1)),u.oneCell'=true:=by
           intro u hu;rcases C7.1 hu with h|h
           · simp[St.cells]at h
             rcases h with rfl|rfl|rfl|rfl|rfl<;>rfl
           · exact Agx _ u h
         have s3:k+1<k+1+(1+m):=ao9;have s4:k+1+(1+m)<=maxLen:=(by have:=hm.out;simp only[maxLen];omega);have s5:(k+1+(1+m))*40<=140737488355328:=(by have:=hm.out;omega);replace⟨s1,s2⟩:=H2 s1 s2;refine step_append_grows (by rfl) _ _ _ (by rfl) 398 i0 _ 5 40 Ls y ap al av rfl ao9 (O ⟨d,0,I⟩) (k+1) (k+1) (Bd (l.take (k+1))) (by rfl) as9 q6.out s1.out ⟨g,0,I⟩ (1+m) ao _ (by rfl) p.1 (p.cells rfl) s2.out s3 s4 s5 ?_;intro v3 w4 v n;obtain⟨g3,aH,rfl⟩:=Joins.ownsRow_form v ao9;have aN:w4.frozen? ⟨q,4,I⟩=false:=(by rw[n.frozen_far _ aA as9,a.frozen_far _ s.out x.out,Ov (w:=o) (Gd o _ q lp)];exact pf);have aM:w4.cell? ⟨q,4,I⟩=O (V (O ⟨d,0,I⟩) l.length cap):=by rw[n.cell_far _ aA as9,a.cell_far _ s.out x.out,Bl (w:=o) (Gd o _ q lp)];exact p4
         clear s4 s5 s3))
  all_goals
   clear aE aF;go_wp2;go_ret;exact Arg r.out (Ac z.head) c.out hk.out ht.out hm.out a n v rfl
def Aro {z:Array VL}  (h1:∀v∈z,v.oneCell'=true) (c:0<z.size):∀v∈(Builtin.zeroCells z n).toList,v.oneCell'=true:=by
 intro v b;simp[Builtin.zeroCells]at b;obtain⟨a,d,rfl⟩:=b;apply h1;have:a % z.size<z.size:=Nat.mod_lt _ c;rw[getElem!_pos z _ this];exact Array.getElem_mem _
def Arp    (h:Row w c cap M) (i:Nat) (x:i<=M.length) {ta:Addr} {m mc:Nat} (s:i<M.length->ta=⟨c,i*5,I⟩) (hm:m=M.length-i) :
  ∃w',(∀t,(Builtin.clear_ #[361] t #[V (O ta) m mc]).run prog w=.ok (.tuple #[]) w')/\Row w' c cap (M.take i)/\Mod (·=c) w w':=by
 obtain⟨h1,u,a,o,hs,y⟩:=h
 have p:Bd (M.take i)=(Bd M).take (i*5):=by
  have:Bd M=Bd (M.take i)++Bd (M.drop i):=by rw[<-Abg,Ti]
  rw[show(Bd M).take (i*5)=(Bd (M.take i)++Bd (M.drop i)).take (i*5) by rw[<-this]];have e1:i*5=(Bd (M.take i)).length:=by rw[Od,Dt,Mw x]
  rw[e1,List.take_left]
 by_cases q:i<M.length
 .obtain ⟨g,rfl⟩:∃g,m=g+1:=⟨m-1,ao9⟩;have f:=s q;obtain⟨Z9q,l⟩:=Ex ((Builtin.zeroCells #[Z G 0,Z G 0,Z G 0,Z G 0,Z G 0] (g+1)).toList);have e:∀v∈Z9q,v.oneCell'=true:=by rw[l];exact Aro (z:=#[Z G 0,Z G 0,Z G 0,Z G 0,Z G 0]) (n:=g+1) (by intro v hv;simp at hv;subst hv;rfl) ad9
  have b:Z9q.length=(g+1)*5:=by rw[l];simp[Builtin.zeroCells]
  have d:=run_storeCells_at (P:=prog) c (i*5) 398 Z9q 0 a w o (by rw[b];omega) e;simp only[O0]at d;obtain⟨C,j⟩:=Ex ((a.toList.take (i*5)++Z9q++a.toList.drop (i*5+Z9q.length)).toArray);rw[<-j]at d;refine⟨w.setRow c C,λt=>?_,⟨?_,u,C,Lv w c a C 398 (0,0) o,?_,?_⟩,⟨rfl,rfl,rfl,by simp[World.setRow],λk _ hk=>Tr w c k C hk⟩⟩
  .subst f;simp[Builtin.clear_,My Ls,Value.cells,<-l,d]
  .simp;omega
  .rw [j];simp only[Tm,Av,b];simp;omega
  .rw [j];simp only[Dt,Mw x];rw[Fd,List.take_append_of_le_length (by simp;omega),Wj,Nat.min_self,p,<-y,Wj];congr 1;omega
 .have:i=M.length:=ao9
  subst this;have r:m=0:=ao9
  subst r;refine⟨w,λt=>?_,⟨by simpa using h1,u,a,o,hs,by simpa using y⟩,Mod.refl _ _⟩;simp[Builtin.clear_,My Ls]
def Agy (s u:St) (w:WD) :
  CS prog 317 #[s.val,u.val] w λe w'=>e=Q (Y (decide (s.f=u.f)))/\BW w.heap.size w w':=by
 have a:=Arn s.f u.f;go_enter func317,ntmps317;go_wp2;go_ret;exact⟨rfl,Bn.alloc as9 _⟩
def Arq  {t e:TypeId} {i:TypeInfo} (d:P.underlying t=O (.slice e)) (f:P.info? e=O i) (b a cap n:Nat) (x:Int) (j:x=n) (g:n<=cap) (w:WD) :
  (Instr.slice t (V (O ⟨b,0,I⟩) a cap) I (O (Z G x)) I).run P w=.ok (V (O ⟨b,0,I⟩) n cap) w:=by
 subst j
 have h1:∀(y:Nat) (_:n<=y) c,(Instr.sliceBound (Z G (n:Int)) y c).run P w=.ok n w:=λy h c=>by
  simp[Instr.sliceBound,asIntOf,h]
 simp[Instr.slice,Instr.sliceBounds,My d,h1 cap g,sizeOf,typeInfo,f,Addr.add]
def Row.free  {a cap:Nat}  (h:Row w a cap l) (o:Nat):w.frozen? ⟨a,o,I⟩=false:=by
 obtain⟨_,_,b,h1,_⟩:=h;exact Ag h1 o
def G2 {B:Nat}  (h:BW B w.drew w'):BW B w w':=⟨h.os,h.tape,h.output,h.size,h.block⟩
def Yb (sb cap:Nat) (l:List St) (w:WD) (e:Ending) (w':WD):Prop:=
 e=Q (V (O ⟨sb,0,I⟩) (B5 l).length cap)/\Row w' sb cap (B5 l)/\Mod (·=sb) w w'
def Arr (l:List St):(B5 l).length<=l.length:=by
 have a:∀(l:List St) p,(Fp p l).length<=l.length:=by
  intro l
  induction l with
  | nil=>intro p;simp[Fp]
  | cons s r ih=>
   intro p;simp only[Fp];split;· have:=ih s.f;simp;omega
   .have:=ih s.f;simp;omega
 cases l with
 | nil=>simp[B5]
 | cons s r=>have:=a r s.f;simp[B5];omega
def Agz (n cap:Nat) (l:List St) (w:WD) (hr:Row w n cap l) (aT:l.length<=2199023255552) :
  CS prog 316 #[V (O ⟨n,0,I⟩) l.length cap,.func (.func 317) #[] #[]] w (Yb n cap l w):=by
 obtain⟨i0,aE,a2,aM,a3⟩:=B6 X9;have aS:=hr.le;have aQ:=hr.lt;replace hr:=Hh hr;go_enter func316,ntmps316;by_cases h2:l.length<2
 .have aN:(l.length:Int)<2:=ao9
  go_wp2;go_ret
  have e:B5 l=l:=by
   have:=Abk l l.length Ln (λi h0 h1=>by omega)
   rwa [Dd Ln]at this
  unfold Yb;rw[e];exact⟨rfl,hr.out,Mod.refl _ _⟩
 .have aN:¬(l.length:Int)<2:=ao9
  go_wp2;go_loopw [5,6,7] (λi _ _ wr=>∃a:Nat,a+1<=l.length/\i=Z G ((a:Int)+1)/\BW w.heap.size w wr/\Hid (∀k,0<k->k<a+1->(nth l k).f≠(nth l (k-1)).f)) (λi _ _ _=>l.length-(intOf i).toNat)
  case atStart=>exact⟨0,ao9,rfl,Below.refl _ _,by intro k h1 h2;omega⟩
  case round=>
   obtain⟨a,ha,rfl,hB,hk⟩:=hrel;have u:=hr.below hB aQ;by_cases aX:a+1<l.length
   .have aI:(a:Int)+1<l.length:=ao9;obtain⟨c0,c1,c2,c3,c4⟩:=u.cells (i:=a) ao9;obtain⟨d0,d1,d2,d3,d4⟩:=u.cells (i:=a+1) ao9;have a1:=hB.size;have aJ:n<wr.heap.size:=ao9;replace⟨hB,u⟩:=H2 hB u;have e1:IntKind.i64.wrap ((a:Int)+1-1)=(a:Int):=(by rw[E0 _ ao9];omega);have e6:IntKind.i64.wrap (a:Int)=(a:Int):=(by rw[E0 _ ao9]);have e2:(0:Int)<=(a:Int)+1:=ao9;have e3:((a:Int)+1).toNat=a+1:=ao9;have e4:(a:Int)<l.length:=ao9;have e5:(0:Int)<=(a:Int):=ao9;go_wp2_with fail
    go_region_held3 (λw'=>w'.cell? ⟨n,a*5,I⟩=O (Z G (nth l a).t)/\w'.cell? ⟨n,a*5+1,I⟩=O (Z G (nth l a).f.a)/\w'.cell? ⟨n,a*5+2,I⟩=O (Z G (nth l a).f.b)/\w'.cell? ⟨n,a*5+3,I⟩=O (Z G (nth l a).f.c)/\w'.cell? ⟨n,a*5+4,I⟩=O (Z G (nth l a).f.d) /\
     w'.cell? ⟨n,(a+1)*5,I⟩=O (Z G (nth l (a+1)).t)/\w'.cell? ⟨n,(a+1)*5+1,I⟩=O (Z G (nth l (a+1)).f.a)/\w'.cell? ⟨n,(a+1)*5+2,I⟩=O (Z G (nth l (a+1)).f.b)/\w'.cell? ⟨n,(a+1)*5+3,I⟩=O (Z G (nth l (a+1)).f.c)/\w'.cell? ⟨n,(a+1)*5+4,I⟩=O (Z G (nth l (a+1)).f.d))
     (first
       | go_keep
       | (go_split_ands
          refine⟨?_,?_,?_,?_,?_,?_,?_,?_,?_,?_⟩<;>(rw[Af r (by simpa using aJ)];assumption)))
     (first|(go_at_call 317;refine(Agy (nth l (a+1)) (nth l a) _).mono ?_;rintro e w2 ⟨rfl,r⟩))
    clear c0 c1 c2 c3 c4 d0 d1 d2 d3 d4 e1 e2 e3 e6;by_cases hf:(nth l (a+1)).f=(nth l a).f
    .have hd:decide ((nth l (a+1)).f=(nth l a).f)=true:=(by simpa using hf);rw[hd];clear hd;replace hf:=Hh hf;obtain⟨ta,aK,aR⟩:=Tz (i:=i0) Ls aE n l.length cap (a+1) ((a:Int)+1) ao9 ao9;obtain rfl:=aR ao9;rw[aM]at aK;obtain⟨m,hm⟩:=Ex (l.length-(a+1));rw[<-hm]at aK;have aY:m<=2199023255552:=ao9;replace hm:=Hh hm;have ac:=u.below (G2 r) (by simpa using aJ);have y:Mod (·=n) w w2:=(Mod.ag hB.out).trans (Mod.ag (G2 r));replace⟨ac,y,r⟩:=H3 ac y r;go_wp2;go_loopw [5,7] (λi j wr=>∃(d b:Nat) (M:List St),d+1<=m/\j=Z G ((d:Int)+1)/\i=Z G b/\Hid (M.length=l.length)/\b<=a+1+d/\Hid (b=(B5 (l.take (a+1+(d+1)))).length)/\Hid (M.take b=B5 (l.take (a+1+(d+1))))/\Hid (∀k,a+1+d<=k->nth M k=nth l k)/\Hid (Row wr n cap M)/\Hid (Mod (·=n) w wr)) (λ_ j _=>m-(intOf j).toNat)
     case atStart=>
      have hc:=Abk l (a+1) ao9 hk.out;have aG:B5 (l.take (a+1+1))=l.take (a+1):=(by rw[Abj l (a+1) ao9 ao9,hc,Ad (by rw[Nat.add_sub_cancel];exact hf.out),N3]);refine⟨0,a+1,l,by have:=hm.out;omega,rfl,as9,rfl,ao9,?_,?_,λk _=>rfl,ac.out,y.out⟩
      .show a+1=(B5 (l.take (a+1+(0+1)))).length;simp only[Dm];rw[aG];simp;omega
      .show l.take (a+1)=B5 (l.take (a+1+(0+1)));simp only[Dm];rw[aG]
     case round=>
      obtain⟨d,b,M,aW,rfl,rfl,ap,aU,al,aA,av,ao,aD⟩:=hrel;have an:=hm.out;have af:=ap.out;by_cases hd:d+1<m
      .have aP:(d:Int)+1<m:=ao9;have aC:=ao.lt;obtain⟨c0,c1,c2,c3,c4⟩:=ao.cells (i:=a+1+d) ao9;obtain⟨d0,d1,d2,d3,d4⟩:=ao.cells (i:=a+1+(d+1)) ao9;simp only[Kx (a+1) d 5,Kx (a+1) (d+1) 5]at c0 c1 c2 c3 c4 d0 d1 d2 d3 d4;have e1:IntKind.i64.wrap ((d:Int)+1-1)=(d:Int):=(by rw[E0 _ ao9];omega);have e6:IntKind.i64.wrap (d:Int)=(d:Int):=(by rw[E0 _ ao9]);have e2:(0:Int)<=(d:Int)+1:=ao9;have e3:((d:Int)+1).toNat=d+1:=ao9;have e4:(d:Int)<m:=ao9;have e5:(0:Int)<=(d:Int):=ao9;clear an af;go_wp2_with fail;go_region_held3 (λw'=>w'.cell? ⟨n,(a+1)*5+d*5,I⟩=O (Z G (nth M (a+1+d)).t)/\w'.cell? ⟨n,(a+1)*5+d*5+1,I⟩=O (Z G (nth M (a+1+d)).f.a)/\w'.cell? ⟨n,(a+1)*5+d*5+2,I⟩=O (Z G (nth M (a+1+d)).f.b)/\w'.cell? ⟨n,(a+1)*5+d*5+3,I⟩=O (Z G (nth M (a+1+d)).f.c)/\w'.cell? ⟨n,(a+1)*5+d*5+4,I⟩=O (Z G (nth M (a+1+d)).f.d)/\w'.cell? ⟨n,(a+1)*5+(d+1)*5,I⟩=O (Z G (nth M (a+1+(d+1))).t)/\w'.cell? ⟨n,(a+1)*5+(d+1)*5+1,I⟩=O (Z G (nth M (a+1+(d+1))).f.a)/\w'.cell? ⟨n,(a+1)*5+(d+1)*5+2,I⟩=O (Z G (nth M (a+1+(d+1))).f.b)/\w'.cell? ⟨n,(a+1)*5+(d+1)*5+3,I⟩=O (Z G (nth M (a+1+(d+1))).f.c)/\w'.cell? ⟨n,(a+1)*5+(d+1)*5+4,I⟩=O (Z G (nth M (a+1+(d+1))).f.d))
        (first
          | go_keep
          | (go_split_ands
             refine⟨?_,?_,?_,?_,?_,?_,?_,?_,?_,?_⟩<;>(rw[Af v (by simpa using aC)];assumption)))
        (first|(go_at_call 317;refine(Agy (nth M (a+1+(d+1))) (nth M (a+1+d)) _).mono ?_;rintro e w3 ⟨rfl,v⟩))
       clear c0 c1 c2 c3 c4 d0 d1 d2 d3 d4 e1 e2 e3 e6;have g:=ao.below (G2 v) (by simpa using aC);have o:=aD.trans (Mod.ag (G2 v));have hx:nth M (a+1+(d+1))=nth l (a+1+(d+1)):=av _ ao9;have hy:nth M (a+1+d)=nth l (a+1+d):=av _ ao9;replace⟨hx,hy⟩:=H2 hx hy;have q:=Abj l (a+1+(d+1)) ao9 (by have:=hm.out;omega);replace q:=Hh q;by_cases s:(nth M (a+1+(d+1))).f=(nth M (a+1+d)).f
       .have am:decide ((nth M (a+1+(d+1))).f=(nth M (a+1+d)).f)=true:=(by simpa using s);simp only[am,Bool.not_true];clear am;have p:=q.out;rw[Ad (by rw[<-hx.out,show a+1+(d+1)-1=a+1+d by omega,<-hy.out];exact s),N3]at p;replace⟨p,s,v,g,o⟩:=H5 p s v g o;go_wp2;go_roundw
        case rel=>
         refine⟨d+1,b,M,ao9,by go_num,rfl,ap,ao9,?_,?_,λk hk=>av.out k ao9,g.out,o.out⟩
         .show b=(B5 (l.take (a+1+(d+1)+1))).length;rw[p.out];exact al.out
         .show _=B5 (l.take (a+1+(d+1)+1));rw[p.out];exact aA.out
        case measure=>simp[intOf];omega
       .have am:decide ((nth M (a+1+(d+1))).f=(nth M (a+1+d)).f)=false:=(by simpa using s);simp only[am,Bool.not_false];clear am;have p:=q.out;rw[Ab (by rw[<-hx.out,show a+1+(d+1)-1=a+1+d by omega,<-hy.out];exact s)]at p;replace⟨p,s⟩:=H2 p s;have af:=ap.out;have an:=hm.out;obtain⟨d0,d1,d2,d3,d4⟩:=g.cells (i:=a+1+(d+1)) ao9;simp only[Kx (a+1) (d+1) 5]at d0 d1 d2 d3 d4;obtain⟨c0,c1,c2,c3,c4⟩:=g.cells (i:=b) ao9;have ff:=g.free;have e7:(b:Int)<l.length:=ao9;clear af an;replace⟨v,g,o⟩:=H3 v g o;go_wp2;go_roundw
        case rel=>
         have af:=ap.out;have an:=hm.out;have aL:=g.mi b (nth M (a+1+(d+1))) ao9;refine⟨d+1,b+1,M.set b (nth M (a+1+(d+1))),ao9,by go_num,by go_num,by show(M.set _ _).length=_;rw[Dl];exact af,ao9,?_,?_,?_,aL,?_⟩
         .show b+1=(B5 (l.take (a+1+(d+1)+1))).length;rw[p.out,Av,<-al.out];rfl
         .show (M.set b _).take (b+1)=B5 (l.take (a+1+(d+1)+1));rw[p.out,<-aA.out,<-hx.out];rw[Un _ b (by rw[Dl];omega),Abi _ _ _ _ ao9,Ad rfl,List.take_set_of_le Ln]
         .intro k hk;rw[Abi _ _ _ _ ao9,Ab ao9];exact av.out k ao9
         .refine o.trans ?_;refine(((Mod.setCell _ _ _ _ (.inl rfl)).trans (Mod.setCell _ _ _ _ (.inl (.inl rfl)))).trans (Mod.setCell _ _ _ _ (.inl (.inl rfl)))).trans (Mod.setCell _ _ _ _ (.inl (.inl rfl))) |>.trans (Mod.setCell _ _ _ _ (.inl (.inl rfl)))
        case measure=>simp[intOf];omega
      .have aB:d+1=m:=ao9;have aP:¬(d:Int)+1<m:=ao9;have x:a+1+(d+1)=l.length:=ao9;rw[x,Dd Ln]at al aA;have aO:b<=M.length:=(by have h1:=al.out;have h2:=Arr l;omega);obtain⟨tb,aZ,aF⟩:=Tz (i:=i0) Ls aE n l.length cap b (b:Int) rfl ao9;have a0:=Arq (i:=i0) Ls aE n l.length cap b (b:Int) rfl ao9;obtain⟨w5,aV,ad,z⟩:=Arp ao.out b aO (ta:=tb) (m:=l.length-b) (mc:=cap-b) (λh=>by rw[aF ao9,aM]) ao9;replace⟨aF,ad,z,x,aB⟩:=H5 aF ad z x aB;clear an af;go_wp2;go_ret
       have aH:Yb n cap l w (Q (V (O ⟨n,0,I⟩) b cap)) w5:=by
        refine⟨by rw[al.out],?_,aD.trans (z.mono λk _ h=>.inl h)⟩;have:=ad.out
        rwa [aA.out]at this
       exact aH
    .have hd:decide ((nth l (a+1)).f=(nth l a).f)=false:=(by simpa using hf);rw[hd];clear hd;replace⟨hf,r⟩:=H2 hf r;go_wp2;go_roundw
     case rel=>
      refine⟨a+1,ao9,by go_num,hB.trans ((G2 r.out).mono (by simp;omega)),?_⟩;intro k h1 h2;by_cases e:k=a+1
      .subst e;exact hf.out
      .exact hk.out k h1 ao9
     case measure=>simp[intOf];omega
   .have aI:¬(a:Int)+1<l.length:=ao9;replace⟨hB,u⟩:=H2 hB u;go_wp2;go_ret
    have e:B5 l=l:=by
     have:=Abk l l.length Ln (λi h0 h1=>hk.out i h0 ao9)
     rwa [Dd Ln]at this
    unfold Yb;rw[e];exact⟨rfl,u.out,Mod.ag hB.out⟩
def Gp (g:V4->V4) (i e:Nat) (l:List St):List St:=l.take i++((l.take e).drop i).map (λs=>⟨s.t,g s.f⟩)++l.drop e
def Ag0 (g:V4->V4) (i:Nat) (l:List St):Gp g i i l=l:=by
 have:(l.take i).drop i=[]:=by rw[List.drop_eq_nil_iff];simp;omega
 simp[Gp,this]
def So (g:V4->V4) (i e:Nat) (l:List St) (h:i<=e) (a:e<=l.length):(Gp g i e l).length=l.length:=by
 simp[Gp];omega
def Sp (g:V4->V4) (i e:Nat) (l:List St) (h:i<=e) (c:e<=l.length) (k:Nat) (a:k<l.length) :
  nth (Gp g i e l) k=if i<=k/\k<e then⟨(nth l k).t,g (nth l k).f⟩else nth l k:=by
 simp only[Gp,nth,Zf];by_cases h1:k<i
 .rw [Fd,Es (by simp;omega),Lr,Ad h1,Ab ao9]
 .by_cases b:k<e
  .rw [Fd,Gb (by simp;omega),Es (by simp;omega),Ad ao9];simp only[Dt,Mw (show i<=l.length by omega),Bm,Py,Lr];rw[Ad ao9,show i+(k-i)=k by omega,Az a];simp
  .rw [Gb (by simp;omega),Ab ao9];congr 1;simp only[Av,Dt,As,Iv,Py];congr 1;omega
def Ars (l m:List St) (h:l.length=m.length) (a:∀k,k<l.length->nth l k=nth m k):l=m:=by
 apply List.ext_getElem h;intro i h1 b;have:=a i h1;simpa[nth,h1,b]using this
def Ag1 (g:V4->V4) (i e:Nat) (l:List St) (h:i<=e) (m:e<l.length):Gp g i (e+1) l=(Gp g i e l).set e ⟨(nth l e).t,g (nth l e).f⟩:=by
 have c:=So g i (e+1) l ao9 ao9;have j:=So g i e l h ao9;refine Ars _ _ (by simp[c,j]) λk b=>?_;rw[c]at b;rw[Sp g i (e+1) l ao9 ao9 k b,Abi _ _ _ _ ao9,Sp g i e l h ao9 k b];by_cases a:k=e
 .subst a;simp[h]
 .by_cases d:i<=k/\k<e
  .rw [Ad ao9,Ab a,Ad d]
  .rw [Ab ao9,Ab a,Ab d]
def Qq (l:List St) (t:Int) (n:Nat) (l':List St):Prop:=
 ∃k,Kk l t k/\(((nth l k).t=t/\l'=l/\n=k)\/((nth l k).t≠t/\l'=Kl l k t/\n=k+1))
def Ag2 (l:List St) (k:Nat) (t:Int) (b:k<l.length) (j:Nat) (a:j<l.length+1) :
  nth (Kl l k t) j=if j<=k then nth l j else if j=k+1 then⟨t,(nth l k).f⟩else nth l (j-1):=by
 simp only[Kl];by_cases h1:j<=k
 .rw [Ad h1,Ark _ _ _ (by simp;omega),Ya l (k+1) j ao9]
 .rw [Ab h1];obtain⟨d,rfl⟩:∃d,j=k+1+d:=⟨j-(k+1),ao9⟩;have e:nth (l.take (k+1)++⟨t,(nth l k).f⟩::l.drop (k+1)) (k+1+d)=nth (⟨t,(nth l k).f⟩::l.drop (k+1)) d:=by simp only[nth,Zf];rw[Gb (by simp;omega)];congr 2;simp;omega
  rw[e]
  cases d with
  | zero=>simp[nth]
  | succ d=>
   rw[Ab ao9,show k+1+(d+1)-1=k+1+d by omega];simp[nth]
def Qq.facts {l d:List St} {t:Int}  (h:Qq l t n d) (c:B9 l) (ht:t<1099511627776) :
  B9 d/\n<d.length/\(nth d n).t=t/\l.length<=d.length/\(∀j,j<l.length->(nth l j).t<t->j<n/\nth d j=nth l j)/\(∀j,j<d.length->∃i,i<l.length/\(nth d j).f=(nth l i).f):=by
 obtain⟨k,hk,h⟩:=h;obtain⟨r,k2,v⟩:=hk;rcases h with⟨h1,rfl,rfl⟩|⟨h1,rfl,rfl⟩
 .refine ⟨c,r,h1,Nat.le_refl _,λj b x=>⟨?_,rfl⟩,λj b=>⟨j,b,rfl⟩⟩;apply Is;intro y;by_cases e:j=n
  .subst e;omega
  .have:=c.bj n j ao9 b;omega
 .have a:=Abh l k t r;have g:=Ag2 l k t r;have ac:(nth l k).t<t:=ao9
  refine⟨⟨ao9,by rw[g 0 ao9,Ad ao9];exact c.zero,?_,?_⟩,ao9,?_,ao9,?_,?_⟩
  .intro i j s b;rw[a]at b;rw[g i ao9,g j ao9];by_cases m:i<=k
   .rw [Ad m]
    have z:(nth l i).t<=(nth l k).t:=by
     by_cases e:i=k
     .subst e;omega
     .have:=c.bj i k ao9 r;omega
    by_cases p:j<=k
    .rw [Ad p];exact c.bj i j s ao9
    .rw [Ab p];by_cases q:j=k+1
     .rw [Ad q];show(nth l i).t<t;omega
     .rw [Ab q];exact c.bj i (j-1) ao9 ao9
   .rw [Ab m,Ab (show ¬j<=k by omega),Ab (show ¬j=k+1 by omega)];by_cases o:i=k+1
    .rw [Ad o];show t<_;exact v (j-1) ao9 ao9
    .rw [Ab o];exact c.bj (i-1) (j-1) ao9 ao9
  .intro i u;rw[a]at u;rw[g i u];split
   .exact c.last i ao9
   .split
    .exact ht
    .exact c.last (i-1) ao9
  .rw [g (k+1) ao9,Ab ao9,Ad rfl]
  .intro j b x
   have:j<=k:=by apply Is;intro y;have:=v j ao9 b;omega
   exact⟨ao9,by rw[g j ao9,Ad this]⟩
  .intro j b;rw[a]at b;rw[g j b];split
   .exact ⟨j,ao9,rfl⟩
   .split
    .exact ⟨k,r,rfl⟩
    .exact ⟨j-1,ao9,rfl⟩
def Ag3 (c f cap:Nat) (whole:V4) (l:List St) (t:Int) (w:WD) (m:Ce w c f cap whole l) (j:B9 l) (g:0<=t) (i:t<=1099511627776) :
  CS prog 315 #[K (O ⟨c,0,I⟩),Z G t] w λe w'=>∃(n b a:Nat) (d:List St),e=Q (Z G n)/\Qq l t n d/\Ce w' c b a whole d/\(b=f\/w.heap.size<=b)/\Mod (·=c) w w':=
 (Arh c f cap whole l t w m j g i).mono λ_ _ ⟨n,k,b,a,d,he,hk,h,hp',hm⟩=>⟨n,b,a,d,he,⟨k,hk,by rcases h with h|h;exact .inl ⟨h.1,h.2.1,h.2.2.1⟩;exact .inr ⟨h.1,h.2.1,h.2.2.1⟩⟩,hp',by rcases h with h|h;exact .inl h.2.2.2.1;exact .inr h.2.2.2,hm⟩
def Qr (l:List St) (fr t_o:Int) (g:V4->V4) (l':List St):Prop:=
 ∃i l1 e l2,Qq l fr i l1/\((t_o<1099511627776/\Qq l1 t_o e l2)\/(t_o=1099511627776/\l2=l1/\e=l1.length))/\l'=B5 (Gp g i e l2)
def Ag4 (pb sb:Nat) (whole:V4) (l:List St) (fr t_o:Int) (g:V4->V4) (w:WD) (e:Ending) (w':WD):Prop:=
 e=Q (.tuple #[])/\∃sb' cap' l',Qr l fr t_o g l'/\Ce w' pb sb' cap' whole l'/\(sb'=sb\/w.heap.size<=sb')/\Mod (λb=>b=pb\/b=sb) w w'
def Qs (pb sb vb:Nat) (V9q whole:V4) (w wr:WD) (sb2 cap2:Nat) (M:List St):Prop:=
 Ce wr pb sb2 cap2 whole M/\(sb2=sb\/w.heap.size<=sb2)/\Mod (λb=>b=pb\/b=sb) w wr/\wr.heap[vb]?=O (J V9q.cells 30 (0,0))/\vb≠pb/\vb≠sb2
def World.kz (w:WD) (sb i:Nat) (f:V4):WD:=
 (((w.setCell ⟨sb,i*5+1,I⟩ (Z G f.a)).setCell ⟨sb,i*5+2,I⟩ (Z G f.b)).setCell ⟨sb,i*5+3,I⟩ (Z G f.c)).setCell ⟨sb,i*5+4,I⟩ (Z G f.d)
def Row.kz    (h:Row w b cap l) (i:Nat) (f:V4) (g:i<l.length):Row (World.kz w b i f) b cap (l.set i ⟨(nth l i).t,f⟩):=by
 have n:=h.mi i ⟨(nth l i).t,f⟩ g;have d:=(h.cells g).1;refine n.of_block ?_;obtain⟨_,_,k,c,_⟩:=h
 have a:(w.setCell ⟨b,i*5,I⟩ (Z G (nth l i).t)).heap[b]?=w.heap[b]?:=by
  rw[Am c,c];rw[Aa c]at d;congr 2;apply Array.ext
  .simp
  .intro j h1 m;rw[Array.getElem_setIfInBounds];split
   .next e=>subst e;rw[Rf m]at d;exact(N4 d).symm
   .rfl
 unfold World.kz World.mi;rw[Am (Am (Am (Am c _ _) _ _) _ _) _ _];rw[Am (Am (Am (Am (a.trans c) _ _) _ _) _ _) _ _]
def Mod.kz {S:Nat->Prop} (w:WD) (b i:Nat) (f:V4) (a:S b):Mod S w (World.kz w b i f):=
 (((Mod.setCell _ _ _ _ a).trans (Mod.setCell _ _ _ _ (.inl a))).trans (Mod.setCell _ _ _ _ (.inl a))).trans (Mod.setCell _ _ _ _ (.inl a))
def Ag5 {i s j:Nat}  {w wr g:WD} {c e:Nat}  (h:Qs i s j V9q whole w wr c e M) (d:BW wr.heap.size wr g) (a:Nat) (f:V4) (x:a<M.length) :
  Qs i s j V9q whole w (World.kz g c a f) c e (M.set a ⟨(nth M a).t,f⟩):=by
 obtain⟨⟨p,q,r⟩,m,u,n,v,o⟩:=h;have y:=Ac p;have z:=q.lt;have l3:=Ac n;have l:Mod (λb=>b=c) g (World.kz g c a f):=Mod.kz g c a f rfl;have s4:=d.size;refine⟨⟨?_,(q.below d z).kz a f x,r⟩,m,?_,?_,v,o⟩
 .rw [l.block i ao9 r,d.block i y,p,Dl]
 .refine (u.trans (Mod.ag d)).trans (Mod.mono l ?_);rintro k _ rfl;rcases m with h|h
  .exact .inl (.inr h)
  .exact .inr h
 .rw [l.block j ao9 o,d.block j l3];exact n
def Ag6 {d m r:Nat}    {g:V4->V4} {w wr f:WD} {b a:Nat}  (h:Qs d m r V9q whole w wr b a M) (p:Qr l fr t_o g (B5 M))
  (n:Row f b a (B5 M)) (c:Mod (·=b) wr f):Ag4 d m whole l fr t_o g w (Q (.tuple #[])) (f.setCell ⟨d,4,I⟩ (V (O ⟨b,0,I⟩) (B5 M).length a)):=by
 obtain⟨⟨j,v,e⟩,i,o,s,t,u⟩:=h;have q:=Ac j;refine⟨rfl,b,a,B5 M,p,⟨?_,n.of_block (Ci _ _ _ _ (P7 e)),e⟩,i,?_⟩
 .rw [Am ((c.block d q e).trans j)];simp
 .refine (o.trans (c.mono ?_)).trans (Mod.setCell _ _ _ _ (.inl (.inl rfl)));rintro k _ rfl;rcases i with h|h
  .exact .inl (.inr h)
  .exact .inr h
def Ag7 (pb sb cap vb:Nat) (V9q whole:V4) (l:List St) (fr t_o:Int) (F:FuncId) (g:V4->V4) (w:WD) (hp:Ce w pb sb cap whole l) (hl:B9 l)
  (h0:0<=fr) (h1:fr<t_o) (h2:t_o<=1099511627776) (hv:w.heap[vb]?=O (J V9q.cells 30 (0,0))) (aN:vb≠pb) (aT:vb≠sb)
  (hF:∀args w,(callFunc F args).run prog w=.ok (.enter F args) w)
  (H:∀(s:V4) (w1:WD),w1.heap[vb]?=O (J V9q.cells 30 (0,0))->CS prog F #[s.val,K (O ⟨vb,0,I⟩)] w1 λe w2=>e=Q (g s).val/\BW w1.heap.size w1 w2) :
  CS prog 278 #[K (O ⟨pb,0,I⟩),Z G fr,Z G t_o,.func (.func F) #[] #[K (O ⟨vb,0,I⟩)]] w (Ag4 pb sb whole l fr t_o g w):=by
 replace⟨H,hp,hl,hv,aN,aT⟩:=H6 H hp hl hv aN aT;go_enter func278,ntmps278;go_wp2_with fail;refine(Ag3 pb sb cap whole l fr w hp.out hl.out h0 ao9).mono ?_;rintro e w2 ⟨i,y,ap,r,rfl,aC,aF,aL,aJ⟩;obtain⟨aD,bb,aO,bk,aV,aW⟩:=aC.facts hl.out ao9;have p4:=Aa aF.head 4;simp at p4;have bc:=aD.len;have hC:Qs pb sb vb V9q whole w w2 y ap r:=⟨aF,aL,aJ.mono λk _ h=>.inl h,(aJ.block vb (Ac hv.out) aN.out).trans hv.out,aN.out,by rcases aL with h|h;(rw[h];exact aT.out);(have:=Ac hv.out;omega)⟩;replace⟨hC,aC,aD,aF,aL,aJ,aO,aV⟩:=H8 hC aC aD aF aL aJ aO aV;replace aW:=Hh aW;by_cases a7:t_o<1099511627776
 .go_wp2_with fail;refine(Ag3 pb y ap whole r t_o w2 aF.out aD.out ao9 h2).mono ?_;rintro e w3 ⟨n,ao,av,l2,rfl,aI,aS,aM,aK⟩;obtain⟨aQ,bl,aY,bn,aR,aZ⟩:=aI.facts aD.out a7;have aP:i<=n:=by have:=aR i bb (by rw[aO.out];omega);omega
  have aA:Qs pb sb vb V9q whole w w3 ao av l2:=by
   obtain⟨_,a2,a3,a4,a5,a6⟩:=hC.out;refine⟨aS,?_,a3.trans (aK.mono λk _ h=>.inl (.inl h)),(aK.block vb (Ac a4) a5).trans a4,a5,?_⟩
   .rcases aM with h|h
    .rw [h];exact a2
    .exact .inr (Aw a3.size h)
   .rcases aM with h|h
    .rw [h];exact a6
    .have:=Ac a4;omega
  have am:(t_o<1099511627776/\Qq r t_o n l2)\/(t_o=1099511627776/\l2=r/\n=r.length):=.inl ⟨a7,aI⟩;have bd:=aQ.len;replace⟨aA,am,aQ,aI,aS,aM,aK,aY⟩:=H8 aA am aQ aI aS aM aK aY;replace⟨aR,aZ⟩:=H2 aR aZ;clear p4;go_wp2;go_loopw [10] (λk wr=>∃(a:Nat) (M:List St),i<=a/\a<=n/\k=Z G a/\Hid (M=Gp g i a l2)/\Hid (Qs pb sb vb V9q whole w wr ao av M)) (λk _=>n-(intOf k).toNat)
  case atStart=>exact⟨i,l2,Nat.le_refl _,aP,rfl,(Ag0 g i l2).symm,aA.out⟩
  case round=>
   obtain⟨a,M,af,ba,rfl,hM,z⟩:=hrel;obtain⟨c,x,v,u,a0,a1⟩:=z.out;have q:M.length=l2.length:=(by rw[hM.out];exact So g i a l2 af ao9);have q4:=Aa c.head 4;have qf:=Ag c.head 4;simp at q4;have an:=Ac c.head;have j:=c.row.lt;have aH:=c.ne;have a8:M.length<=1099511627777:=ao9;by_cases be:a<n
   .have aE:(a:Int)<n:=ao9;have aB:a<M.length:=ao9;have aX:(a:Int)<M.length:=ao9;have a9:(0:Int)<=(a:Int):=ao9;obtain⟨c0,c1,c2,c3,c4⟩:=c.row.cells (i:=a) aB;have ff:=c.row.free;replace⟨q,c,x,v,u,ff⟩:=H6 q c x v u ff;have aU:Hid (wr.drew.heap[vb]?=O (J V9q.cells 30 (0,0))):=u.out;go_wp2_with fail;go_region_law
     (first
       | (go_simp
          (with_reducible refine(H.out (nth M a).f _ aU.out).mono ?_)
          rintro e w4 ⟨rfl,b⟩;replace b:=G2 b;have bf:=(Af b an).trans q4;have d1:=(Af b (o:=a*5+1) j).trans c1;have d2:=(Af b (o:=a*5+2) j).trans c2;have d3:=(Af b (o:=a*5+3) j).trans c3;have d4:=(Af b (o:=a*5+4) j).trans c4;have f1:=(b.frozen (p:=⟨ao,a*5+1,I⟩) j).trans (ff _);have f2:=(b.frozen (p:=⟨ao,a*5+2,I⟩) j).trans (ff _);have f3:=(b.frozen (p:=⟨ao,a*5+3,I⟩) j).trans (ff _);have f4:=(b.frozen (p:=⟨ao,a*5+4,I⟩) j).trans (ff _)
          replace b:=Hh b))
    all_goals
     go_wp2;go_roundw
     case rel=>
      refine⟨a+1,M.set a ⟨(nth M a).t,g (nth M a).f⟩,ao9,ao9,by go_num,?_,Ag5 z.out b.out a (g (nth M a).f) aB⟩;show _=Gp g i (a+1) l2;have hx:=Sp g i a l2 af ao9 a (by have:=q.out;omega);rw[Ab ao9,<-hM.out]at hx;rw[Ag1 g i a l2 af (by have:=q.out;omega),<-hM.out,hx]
     case measure=>simp[intOf];omega
   .have aE:¬(a:Int)<n:=ao9;have ad:a=n:=ao9;have ac:Qr l fr t_o g (B5 M):=⟨i,r,n,l2,aC.out,am.out,by rw[hM.out,ad]⟩;have al:=c.row;replace⟨ad,q,ac,c,x,v,u,al⟩:=H8 ad q ac c x v u al;go_wp2_with fail;refine(Agz ao av M wr al.out ao9).mono ?_;rintro e w5 ⟨rfl,m,d⟩;have bg:=(Bl (w:=wr) (d.block pb an aH)).trans q4;have bi:=(Ov (w:=wr) (d.block pb an aH)).trans qf;replace⟨m,d⟩:=H2 m d;go_wp2;go_end0;exact Ag6 z.out ac.out m.out d.out
 .have aG:t_o=1099511627776:=ao9
  have aP:i<=r.length:=ao9
  have aA:=hC;replace aG:=Hh aG;go_wp2;go_loopw [10] (λk wr=>∃(a:Nat) (M:List St),i<=a/\a<=r.length/\k=Z G a/\Hid (M=Gp g i a r)/\Hid (Qs pb sb vb V9q whole w wr y ap M)) (λk _=>r.length-(intOf k).toNat)
  case atStart=>exact⟨i,r,Nat.le_refl _,aP,rfl,(Ag0 g i r).symm,aA.out⟩
  case round=>
   obtain⟨a,M,af,ba,rfl,hM,z⟩:=hrel;obtain⟨c,x,v,u,a0,a1⟩:=z.out;have q:M.length=r.length:=(by rw[hM.out];exact So g i a r af ao9);have q4:=Aa c.head 4;have qf:=Ag c.head 4;simp at q4;have an:=Ac c.head;have j:=c.row.lt;have aH:=c.ne;have a8:M.length<=1099511627777:=ao9;by_cases be:a<r.length
   .have aE:(a:Int)<r.length:=ao9;have aB:a<M.length:=ao9;have aX:(a:Int)<M.length:=ao9;have a9:(0:Int)<=(a:Int):=ao9;obtain⟨c0,c1,c2,c3,c4⟩:=c.row.cells (i:=a) aB;have ff:=c.row.free;replace⟨q,c,x,v,u,ff⟩:=H6 q c x v u ff;have aU:Hid (wr.drew.heap[vb]?=O (J V9q.cells 30 (0,0))):=u.out;go_wp2_with fail;go_region_law
     (first
       | (go_simp
          (with_reducible refine(H.out (nth M a).f _ aU.out).mono ?_)
          rintro e w4 ⟨rfl,b⟩;replace b:=G2 b;have bf:=(Af b an).trans q4;have d1:=(Af b (o:=a*5+1) j).trans c1;have d2:=(Af b (o:=a*5+2) j).trans c2;have d3:=(Af b (o:=a*5+3) j).trans c3;have d4:=(Af b (o:=a*5+4) j).trans c4;have f1:=(b.frozen (p:=⟨y,a*5+1,I⟩) j).trans (ff _);have f2:=(b.frozen (p:=⟨y,a*5+2,I⟩) j).trans (ff _);have f3:=(b.frozen (p:=⟨y,a*5+3,I⟩) j).trans (ff _);have f4:=(b.frozen (p:=⟨y,a*5+4,I⟩) j).trans (ff _)
          replace b:=Hh b))
    all_goals
     go_wp2;go_roundw
     case rel=>
      refine⟨a+1,M.set a ⟨(nth M a).t,g (nth M a).f⟩,ao9,ao9,by go_num,?_,Ag5 z.out b.out a (g (nth M a).f) aB⟩;show _=Gp g i (a+1) r;have hx:=Sp g i a r af ao9 a (by have:=q.out;omega);rw[Ab ao9,<-hM.out]at hx;rw[Ag1 g i a r af (by have:=q.out;omega),<-hM.out,hx]
     case measure=>simp[intOf];omega
   .have aE:¬(a:Int)<r.length:=ao9;have ad:a=r.length:=ao9;have ac:Qr l fr t_o g (B5 M):=⟨i,r,r.length,r,aC.out,(.inr ⟨aG.out,rfl,rfl⟩),by rw[hM.out,ad]⟩;have al:=c.row;replace⟨ad,q,ac,c,x,v,u,al⟩:=H8 ad q ac c x v u al;go_wp2_with fail;refine(Agz y ap M wr al.out ao9).mono ?_;rintro e w5 ⟨rfl,m,d⟩;have bg:=(Bl (w:=wr) (d.block pb an aH)).trans q4;have bi:=(Ov (w:=wr) (d.block pb an aH)).trans qf;replace⟨m,d⟩:=H2 m d;go_wp2;go_end0;exact Ag6 z.out ac.out m.out d.out
def pl:List St->Int->Nat
 | [],_=>0
 | [_],_=>0
 | _ :: s :: r,t=>if s.t<=t then pl (s :: r) t+1 else 0
def Jd (s:St) (r:List St):nth (s :: r) 0=s:=rfl
def Eo (s:St) (r:List St) (i:Nat):nth (s :: r) (i+1)=nth r i:=by simp[nth]
def Abl {s:St} {r:List St} (h:Me (s :: r)):Me r:=by
 intro i j a b;have:=h (i+1) (j+1) ao9 (by simpa using b);simpa[Eo]using this
def Kk.pz  {t:Int}  (h:Kk l t k) (d:Me l):k=pl l t:=by
 induction l generalizing k with
 | nil=>exact absurd h.1 as9
 | cons s r ih=>
  cases r with
  | nil=>have:=h.1;simp at this;simpa[pl]using this
  | cons s2 r2=>
   simp only[pl];obtain⟨h1,a,c⟩:=h;by_cases f:s2.t<=t
   .rw [Ad f]
    cases k with
    | zero=>have:=c 1 ao9 as9;simp only[Eo,Jd]at this;omega
    | succ k=>
     have:=ih (k:=k) ⟨by simpa using h1,by simpa[Eo]using a,λj g b=>by have:=c (j+1) ao9 (by simpa using b);simpa[Eo]using this⟩ (Abl d);omega
   .rw [Ab f]
    cases k with
    | zero=>rfl
    | succ k=>
     exfalso;rw[Eo]at a;by_cases e:k=0
     .subst e;rw[Jd]at a;omega
     .have:=d 1 (k+1) ao9 h1;simp only[Eo,Jd]at this;omega
def Pd (v:V4) (b:Int):List St->V4
 | []=>v
 | s :: r=>if b<=s.t then v else Pd (v.least s.f) b r
def Ec (v:V4):List St->V4
 | []=>v
 | s :: r=>Ec (v.least s.f) r
def Art (v:V4) (l:List St) (s:St):Ec v (l++[s])=(Ec v l).least s.f:=by
 induction l generalizing v with
 | nil=>rfl
 | cons a l ih=>exact ih _
def Ag8 (b:Int) (l:List St) (n:Nat) (c:n<=l.length):∀v,(∀j,j<n->(nth l j).t<b)->(n<l.length->b<=(nth l n).t)->Pd v b l=Ec v (l.take n):=by
 induction l generalizing n with
 | nil=>
  intro v _ _;have:n=0:=by simpa using c
  subst this;rfl
 | cons s r ih=>
  intro v h1 a
  cases n with
  | zero=>simp only[Pd,Wi,Ec];rw[Ad (by have:=a as9;rwa [Jd]at this)]
  | succ n=>
   simp only[Pd,List.take_succ_cons,Ec];rw[Ab (by have:=h1 0 ao9;rw[Jd]at this;omega)];exact ih n (by simpa using c) _ (λj d=>by have:=h1 (j+1) ao9;rwa [Eo]at this) (λh=>by have:=a (by simpa using h);rwa [Eo]at this)
def Ld (whole:V4) (l:List St) (fr t_o:Int):V4:=
 if min t_o 1099511627776<=max fr 0 then whole else Pd whole (min t_o 1099511627776) (l.drop (pl l (max fr 0)))
def Nl (l:List St) (k j:Nat):nth (l.drop k) j=nth l (k+j):=by simp[nth]
def Ag9  {t e:TypeId} {i:TypeInfo} (d:P.underlying t=O (.slice e)) (f:P.info? e=O i) (b a cap n:Nat) (x:Int) (h:x=n) (k:n<a) (j:a<=cap) (size:Nat) (g:i.size=size) :
  ∃m mc,(∀w,(Instr.slice t (V (O ⟨b,0,I⟩) a cap) (O (Z G x)) I I).run P w=.ok (V (O ⟨b,n*size,I⟩) m mc) w)/\Hid (m=a-n):=by
 obtain⟨ta,h1,c⟩:=Tz d f b a cap n x h ao9;obtain rfl:=c ao9;rw[g]at h1;exact⟨_,_,h1,rfl⟩
def Aru   {k a m:Nat} {B:Int} (_hk:k<l.length) (e:m=l.length-k) (d:a<=m) (h1:∀j,j<a->(nth l (k+j)).t<B) (b:a<m->B<=(nth l (k+a)).t) :
  Pd whole B (l.drop k)=Ec whole ((l.drop k).take a):=
 Ag8 B (l.drop k) a (by rw[Iv];omega) whole (λj c=>by rw[Nl];exact h1 j c) (λh=>by rw[Nl];exact b (by rw[Iv]at h;omega))
def Arv (whole:V4) (l:List St) (k a:Nat) (h:k+a<l.length):(Ec whole ((l.drop k).take a)).least (nth l (k+a)).f=Ec whole ((l.drop k).take (a+1)):=by
 rw[Un _ a (by rw[Iv];omega),Art,Nl]
def Arw (u sb cap:Nat) (whole:V4) (l:List St) (fr t_o:Int) (w:WD) (o:Ce w u sb cap whole l) (hl:B9 l) :
  CS prog 277 #[K (O ⟨u,0,I⟩),Z G fr,Z G t_o] w λe w'=>e=Q (Ld whole l fr t_o).val/\BW w.heap.size w w':=by
 obtain⟨i0,aD,aO,aF,aP⟩:=B6 X9;have aG:=hl.len;have am:=o.row.le;obtain⟨A,hA⟩:=Ex (max fr 0);obtain⟨B,hB⟩:=Ex (min t_o 1099511627776);have n:Ld whole l fr t_o=if B<=A then whole else Pd whole B (l.drop (pl l A)):=by rw[hA,hB];rfl
 have c0:=Aa o.head 0;have c1:=Aa o.head 1;have c2:=Aa o.head 2;have c3:=Aa o.head 3;have c4:=Aa o.head 4;simp at c0 c1 c2 c3 c4;have ao:=Ac o.head;have ap:=o.row.lt;replace⟨o,hl,n⟩:=H3 o hl n;go_enter func277,ntmps277;have aM:(if fr<0 then 0 else fr)=A:=by rw[hA];omega
 have aL:(if 1099511627776<t_o then 1099511627776 else t_o)=B:=by rw[hB];omega
 have aA:0<=A:=ao9
 have aI:B<=1099511627776:=ao9
 replace⟨hA,hB⟩:=H2 hA hB;by_cases af:B<=A
 .replace n:=Hh (n.trans (Ad af));go_wp2;refine An (v:=whole.val) (by simp[results,results277,go_sem]) rfl ⟨by rw[n.out],?_⟩;exact Bn.alloc as9 _
 .have aH:A<1099511627776:=ao9
  replace n:=Hh (n.trans (Ab af));go_wp2_with fail
  have p4:∀o1 o2,((w.alloc o1).alloc o2).drew.cell? ⟨u,4,I⟩=O (V (O ⟨sb,0,I⟩) l.length cap):=λo1 o2=>by
   rw[<-c4];exact Bl (w:=w) ((Gd _ o2 u (by simp;omega)).trans (Gd w o1 u ao))
  have ad:∀o1 o2,Ce ((w.alloc o1).alloc o2).drew u sb cap whole l:=λo1 o2=>by
   have hb:BW w.heap.size w ((w.alloc o1).alloc o2).drew:=(Bn.alloc as9 _).drew;exact⟨Ae hb o.head ao,o.row.below hb ap,o.ne⟩
  replace⟨p4,ad⟩:=H2 p4 ad;go_region_held3 (λw'=>w'.cell? ⟨u,4,I⟩=O (V (O ⟨sb,0,I⟩) l.length cap))
   (first
     | go_keep
     | (rw[Af p (by simp;omega)];exact p4.out _ _))
   (first
     | (go_at_call 313;refine(X8 u sb cap whole l A _ (ad _ _) hl.out aA ao9).mono ?_;rintro e w2 ⟨k,rfl,hk,p⟩;obtain⟨m,mc,aN,hm⟩:=Ag9 (i:=i0) Ls aD sb l.length cap k (k:Int) rfl hk.1 am 5 aF;have aE:=hk.1
        replace hk:=Hh hk))
  have aK:m<=1099511627777:=by have:=hm.out;omega
  have ac:=hk.pz hl.bj;have s:Ld whole l fr t_o=Pd whole B (l.drop k):=by rw[ac];exact n.out
  replace⟨ac,s⟩:=H2 ac s;have y:=((Bn.alloc as9 _).drew).trans (p.mono (by simp;omega));have g1:=Ae p (Tx (A2 (b:=w.heap.size+1) _ _ as9)) as9;have g0:=Ae p (Tx (Ak _ (Ah _ _))) (by simp;omega);replace⟨y,g0,g1,p⟩:=H4 y g0 g1 p;go_wp2;go_loopw [34] (λc wr=>∃a:Nat,a<=m/\c=Z G a/\BW w.heap.size w wr/\Hid (wr.heap[w.heap.size+1]?=O (J (Ec whole ((l.drop k).take a)).cells 30 (0,0)))/\Hid (wr.heap[w.heap.size]?=O (J V4.zero.cells 30 (0,0)))/\Hid (∀j,j<a->(nth l (k+j)).t<B)) (λc _=>m-(intOf c).toNat)
  case atStart=>exact⟨0,Ar _,rfl,y.out,g1.out,g0.out,by intro j hj;omega⟩
  case round=>
   obtain⟨a,aB,rfl,d,G1,G0,an⟩:=hrel;have e1:=Aa G1.out;have e0:=Aa G0.out;have av:=Ag G0.out;have x1:=e1 0;have x2:=e1 1;have x3:=e1 2;have x4:=e1 3;have y1:=e0 0;have y2:=e0 1;have y3:=e0 2;have y4:=e0 3;have l1:=Ac G1.out;have l0:=Ac G0.out;simp at x1 x2 x3 x4 y1 y2 y3 y4;clear e1 e0
   have g:∀(hd:a<m->B<=(nth l (k+a)).t),Ld whole l fr t_o=Ec whole ((l.drop k).take a):=λhd=>by
    rw[s.out];exact Aru aE hm.out aB an.out hd
   replace g:=Hh g;by_cases hc:a<m
   .have aC:(a:Int)<m:=ao9;have aJ:(0:Int)<=(a:Int):=ao9;obtain⟨c0,c1,c2,c3,c4⟩:=(o.row.below d ap).cells (i:=k+a) (by have:=hm.out;omega);simp only[Kx]at c0 c1 c2 c3 c4;by_cases hb:(nth l (k+a)).t<B
    .have al:¬B<=(nth l (k+a)).t:=ao9;go_wp2_with fail;refine(Aq2 (Ec whole ((l.drop k).take a)) (nth l (k+a)).f _).mono ?_;rintro e w4 ⟨rfl,r⟩;rw[Arv whole l k a (by have:=hm.out;omega)];have z:=(d.alloc d.size _).trans (r.mono (by have:=d.size;simp;omega));have q:=Ae r (Ak _ G1.out) (by simp;omega);have x:=Ae r (Ak _ G0.out) (by simp;omega);have z1:=Aa q;have zf:=Ag q;replace⟨q,x,z,r⟩:=H4 q x z r;clear x1 x2 x3 x4 y1 y2 y3 y4 c0 c1 c2 c3 c4 av;replace d:=Hh d;go_wp2;go_roundw
     case rel=>
      refine⟨a+1,ao9,by go_num,?_,?_,?_,?_⟩
      .exact (((z.setCell as9 _).setCell as9 _).setCell as9 _).setCell as9 _
      .unfold Hid;rw[Am (Am (Am (Am q.out _ _) _ _) _ _) _ _];simp
      .exact Dg ao9 _ (Dg ao9 _ (Dg ao9 _ (Dg ao9 _ x.out)))
      .intro j hj;by_cases e:j=a
       .subst e;exact hb
       .exact an.out j ao9
     case measure=>simp[intOf];omega
    .have al:B<=(nth l (k+a)).t:=ao9;replace g:=Hh (g (λ_=>al));replace d:=Hh d;go_wp2;refine An (v:=(Ec whole ((l.drop k).take a)).val) (by simp[results,results277,go_sem,y1,y2,y3,y4,l0]) rfl ⟨by rw[g.out],?_⟩;refine Below.alloc ?_ (by have:=d.size;simpa using this) _;exact(((d.setCell Ln _).setCell Ln _).setCell Ln _).setCell Ln _
   .have aC:¬(a:Int)<m:=ao9;replace g:=Hh (g (λh=>absurd h hc));replace d:=Hh d;go_wp2;refine An (v:=(Ec whole ((l.drop k).take a)).val) (by simp[results,results277,go_sem,y1,y2,y3,y4]) rfl ⟨by rw[g.out],?_⟩;exact(((d.setCell Ln _).setCell Ln _).setCell Ln _).setCell Ln _
def _root_.Go.Proofs.YtimlcnhcjndijaaGreatDoor.V4.dz (u v:V4):V4:=⟨max u.a v.a,max u.b v.b,max u.c v.c,max u.d v.d⟩
def Qt (v:V4) (b:Int):List St->V4
 | []=>v
 | s :: r=>if b<=s.t then v else Qt (v.dz s.f) b r
def Ep (v:V4):List St->V4
 | []=>v
 | s :: r=>Ep (v.dz s.f) r
def Arx (v:V4) (l:List St) (s:St):Ep v (l++[s])=(Ep v l).dz s.f:=by
 induction l generalizing v with
 | nil=>rfl
 | cons a l ih=>exact ih _
def Aha (b:Int) (l:List St) (n:Nat) (c:n<=l.length):∀v,(∀j,j<n->(nth l j).t<b)->(n<l.length->b<=(nth l n).t)->Qt v b l=Ep v (l.take n):=by
 induction l generalizing n with
 | nil=>
  intro v _ _;have:n=0:=by simpa using c
  subst this;rfl
 | cons s r ih=>
  intro v h1 a
  cases n with
  | zero=>simp only[Qt,Wi,Ep];rw[Ad (by have:=a as9;rwa [Jd]at this)]
  | succ n=>
   simp only[Qt,List.take_succ_cons,Ep];rw[Ab (by have:=h1 0 ao9;rw[Jd]at this;omega)];exact ih n (by simpa using c) _ (λj d=>by have:=h1 (j+1) ao9;rwa [Eo]at this) (λh=>by have:=a (by simpa using h);rwa [Eo]at this)
def Ary  {k a m:Nat} {B:Int} (e:m=l.length-k) (d:a<=m) (h1:∀j,j<a->(nth l (k+j)).t<B) (b:a<m->B<=(nth l (k+a)).t) :
  Qt V4.zero B (l.drop k)=Ep V4.zero ((l.drop k).take a):=
 Aha B (l.drop k) a (by rw[Iv];omega) V4.zero (λj c=>by rw[Nl];exact h1 j c) (λh=>by rw[Nl];exact b (by rw[Iv]at h;omega))
def Arz (l:List St) (k a:Nat) (h:k+a<l.length):(Ep V4.zero ((l.drop k).take a)).dz (nth l (k+a)).f=Ep V4.zero ((l.drop k).take (a+1)):=by
 rw[Un _ a (by rw[Iv];omega),Arx,Nl]
def E5 (l:List St) (fr t_o:Int):V4:=Qt V4.zero t_o (l.drop (pl l fr))
def Ar0 (v:V4) (w:WD):(Instr.index 30 v.val (Z G 0)).run prog w=.ok (Z G v.a) w:=by kernel_rfl
def Ar1 (v:V4) (w:WD):(Instr.index 30 v.val (Z G 1)).run prog w=.ok (Z G v.b) w:=by kernel_rfl
def Ar2 (v:V4) (w:WD):(Instr.index 30 v.val (Z G 2)).run prog w=.ok (Z G v.c) w:=by kernel_rfl
def Ar3 (v:V4) (w:WD):(Instr.index 30 v.val (Z G 3)).run prog w=.ok (Z G v.d) w:=by kernel_rfl
def Ahb (r sb cap:Nat) (whole:V4) (l:List St) (fr t_o:Int) (w:WD) (q:Ce w r sb cap whole l) (hl:B9 l) (h0:0<=fr) (h1:fr<=1099511627776) :
  CS prog 282 #[K (O ⟨r,0,I⟩),Z G fr,Z G t_o] w λe w'=>e=Q (E5 l fr t_o).val/\BW w.heap.size w w':=by
 obtain⟨i0,aA,aI,aC,aJ⟩:=B6 X9;have aD:=hl.len;have ad:=q.row.le;have c4:=Aa q.head 4;simp at c4;have al:=Ac q.head;have am:=q.row.lt;replace⟨q,hl⟩:=H2 q hl;go_enter func282,ntmps282;go_wp2_with fail
 have p4:∀y z,((w.alloc y).alloc z).drew.cell? ⟨r,4,I⟩=O (V (O ⟨sb,0,I⟩) l.length cap):=λy z=>by
  rw[<-c4];exact Bl (w:=w) ((Gd _ z r (by simp;omega)).trans (Gd w y r al))
 have x:∀y z,Ce ((w.alloc y).alloc z).drew r sb cap whole l:=λy z=>by
  have hb:BW w.heap.size w ((w.alloc y).alloc z).drew:=(Bn.alloc as9 _).drew;exact⟨Ae hb q.head al,q.row.below hb am,q.ne⟩
 replace⟨p4,x⟩:=H2 p4 x;go_region_held3 (λw'=>w'.cell? ⟨r,4,I⟩=O (V (O ⟨sb,0,I⟩) l.length cap))
  (first
    | go_keep
    | (rw[Af o (by simp;omega)];exact p4.out _ _))
  (first
    | (go_at_call 313;refine(X8 r sb cap whole l fr _ (x _ _) hl.out h0 h1).mono ?_;rintro e w2 ⟨k,rfl,hk,o⟩;obtain⟨m,mc,aH,hm⟩:=Ag9 (i:=i0) Ls aA sb l.length cap k (k:Int) rfl hk.1 ad 5 aC;have aF:=hk.1
       replace hk:=Hh hk))
 have aG:m<=1099511627777:=by have:=hm.out;omega
 have u:=hk.pz hl.bj;have p:E5 l fr t_o=Qt V4.zero t_o (l.drop k):=by rw[u];rfl
 replace⟨u,p⟩:=H2 u p;have s:=((Bn.alloc as9 _).drew).trans (o.mono (by simp;omega));have g1:=Ae o (Tx (A2 (b:=w.heap.size+1) _ _ as9)) as9;have g0:=Ae o (Tx (Ak _ (Ah _ _))) (by simp;omega);replace⟨s,g0,g1,o⟩:=H4 s g0 g1 o;go_wp2;go_loopw [10,11,21] (λ_ _ c wr=>∃a:Nat,a<=m/\c=Z G a/\BW w.heap.size w wr/\Hid (wr.heap[w.heap.size+1]?=O (J (Ep V4.zero ((l.drop k).take a)).cells 30 (0,0)))/\Hid (wr.heap[w.heap.size]?=O (J V4.zero.cells 30 (0,0)))/\Hid (∀j,j<a->(nth l (k+j)).t<t_o)) (λ_ _ c _=>m-(intOf c).toNat)
 case atStart=>exact⟨0,Ar _,rfl,s.out,g1.out,g0.out,by intro j hj;omega⟩
 case round=>
  obtain⟨a,ap,rfl,n,G1,G0,af⟩:=hrel;obtain⟨X,hX⟩:=Ex (Ep V4.zero ((l.drop k).take a));rw[<-hX]at G1;have e1:=Aa G1.out;have e0:=Aa G0.out;have an:=Ag G0.out;have x1:=e1 0;have x2:=e1 1;have x3:=e1 2;have x4:=e1 3;have y1:=e0 0;have y2:=e0 1;have y3:=e0 2;have y4:=e0 3;have l1:=Ac G1.out;have l0:=Ac G0.out;simp at x1 x2 x3 x4 y1 y2 y3 y4;clear e1 e0
  have g:∀(hd:a<m->t_o<=(nth l (k+a)).t),E5 l fr t_o=X:=λhd=>by
   rw[p.out,hX];exact Ary hm.out ap af.out hd
  replace⟨g,hX⟩:=H2 g hX;by_cases hc:a<m
  .have av:(a:Int)<m:=ao9;have aE:(0:Int)<=(a:Int):=ao9;obtain⟨c0,c1,c2,c3,c4⟩:=(q.row.below n am).cells (i:=k+a) (by have:=hm.out;omega);simp only[Kx]at c0 c1 c2 c3 c4;by_cases hb:(nth l (k+a)).t<t_o
   .have ac:¬t_o<=(nth l (k+a)).t:=ao9;obtain⟨F,hF⟩:=Ex ((nth l (k+a)).f);rw[<-hF]at c1 c2 c3 c4;replace hF:=Hh hF;clear y1 y2 y3 y4 an;replace n:=Hh n;go_wp2;have ma:(if X.a<F.a then F.a else X.a)=(X.dz F).a:=(by simp only[V4.dz];omega);have mb:(if X.b<F.b then F.b else X.b)=(X.dz F).b:=(by simp only[V4.dz];omega);have mc:(if X.c<F.c then F.c else X.c)=(X.dz F).c:=(by simp only[V4.dz];omega);have md:(if X.d<F.d then F.d else X.d)=(X.dz F).d:=(by simp only[V4.dz];omega);have ff:=Ag G1.out;have i0:=Ar0 F;have i1:=Ar1 F;have i2:=Ar2 F;have i3:=Ar3 F;refine To 5 ?_;rw[M1];go_wp2;rw[M1];go_wp2;rw[M1];go_wp2;rw[M1];go_wp2;rw[M1];go_wp2;go_roundw
    case rel=>
     have aB:=n.size;have ao:X.dz F=Ep V4.zero ((l.drop k).take (a+1)):=(by rw[hX.out,hF.out];exact Arz l k a (by have:=hm.out;omega));refine⟨a+1,ao9,by go_num,?_,?_,?_,?_⟩
     .refine Below.alloc ?_ (by simpa using aB) _;exact(((n.setCell as9 _).setCell as9 _).setCell as9 _).setCell as9 _
     .unfold Hid;refine Ak _ ?_;rw[Am (Am (Am (Am G1.out _ _) _ _) _ _) _ _,<-ao];simp
     .unfold Hid;exact Ak _ (Dg ao9 _ (Dg ao9 _ (Dg ao9 _ (Dg ao9 _ G0.out))))
     .intro j hj;by_cases e:j=a
      .subst e;exact hb
      .exact af.out j ao9
    case measure=>simp[intOf];omega
   .have ac:t_o<=(nth l (k+a)).t:=ao9;replace g:=Hh (g (λ_=>ac));replace n:=Hh n;go_wp2;refine An (v:=X.val) (by simp[results,results282,go_sem,y1,y2,y3,y4,l0]) rfl ⟨by rw[g.out],?_⟩;refine Below.alloc ?_ (by have:=n.size;simpa using this) _;exact(((n.setCell Ln _).setCell Ln _).setCell Ln _).setCell Ln _
  .have av:¬(a:Int)<m:=ao9;replace g:=Hh (g (λh=>absurd h hc));replace n:=Hh n;go_wp2;refine An (v:=X.val) (by simp[results,results282,go_sem,y1,y2,y3,y4]) rfl ⟨by rw[g.out],?_⟩;exact(((n.setCell Ln _).setCell Ln _).setCell Ln _).setCell Ln _
def Bf (fr t_o:Int) (v:V4):Bool:=decide (0<=fr) && decide (fr<t_o) && decide (t_o<=1099511627776) && v.right
def Ahc (fr t_o:Int) (v:V4) (w:WD) :
  CS prog 276 #[Z G fr,Z G t_o,v.val] w λe w'=>e=Q (Y (Bf fr t_o v))/\BW w.heap.size w w':=by
 by_cases h1:0<=fr
 .by_cases c:fr<t_o
  .by_cases d:t_o<=1099511627776
   .have a:Bf fr t_o v=v.right:=(by simp[Bf,h1,c,d]);rw[a];clear a;go_enter Ws,Wp;go_wp2_with fail;refine(Iz v _).mono ?_;rintro e f ⟨rfl,b⟩;go_wp2;go_ret;exact⟨rfl,Bn.trans (b.mono as9)⟩
   .have a:Bf fr t_o v=false:=(by simp[Bf,d]);rw[a];clear a;go_enter Ws,Wp;go_wp2;go_ret;exact⟨rfl,Bn⟩
  .have a:Bf fr t_o v=false:=(by simp[Bf,c]);rw[a];clear a;go_enter Ws,Wp;go_wp2;go_ret;exact⟨rfl,Bn⟩
 .have a:Bf fr t_o v=false:=by simp[Bf,h1]
  rw[a];clear a;go_enter Ws,Wp;go_wp2;go_ret;exact⟨rfl,Bn⟩
def Ar4:∀args w,(callFunc 279 args).run prog w=.ok (.enter 279 args) w:=Iy func279 ad9 (by simp[f279])
def Ar5:∀args w,(callFunc 283 args).run prog w=.ok (.enter 283 args) w:=Iy func283 ad9 (by simp[f283])
def Ar6 (s v:V4) (m:Nat) (w:WD) (d:w.heap[m]?=O (J v.cells 30 (0,0))) :
  CS prog 279 #[s.val,K (O ⟨m,0,I⟩)] w λe w'=>e=Q (s.sub v).1.val/\BW w.heap.size w w':=by
 have i:=Aa d 0;have j:=Aa d 1;have k:=Aa d 2;have l:=Aa d 3;simp at i j k l;have t:=Ac d;clear d;go_enter func279,ntmps279;go_wp2_with fail;refine(Aq7 s v _).mono ?_;rintro e u ⟨rfl,a⟩;have c:=(Bn.alloc as9 _).trans (a.mono (by simp;omega));have g:=Ae a (Ak _ (Ah _ _)) (by simp;omega);have h:=Ae a (A2 (b:=w.heap.size+1) _ _ as9) as9;have o:=Aa g;have p:=Ag g;have n:=Aa h;have q:=Ag h;replace⟨a,c⟩:=H2 a c;clear g h i j k l;obtain⟨r,f⟩:=Ex (s.sub v);rw[<-f];replace f:=Hh f;go_wp2;refine An (v:=r.1.val) (by simp[results,results279,go_sem,n]) rfl ⟨by rw[f.out],?_⟩
 repeat (refine Cn ?_ as9 _)
 exact c.out
def Ar7 (s v:V4) (m:Nat) (w:WD) (d:w.heap[m]?=O (J v.cells 30 (0,0))) :
  CS prog 283 #[s.val,K (O ⟨m,0,I⟩)] w λe w'=>e=Q (s.add v).1.val/\BW w.heap.size w w':=by
 have i:=Aa d 0;have j:=Aa d 1;have k:=Aa d 2;have l:=Aa d 3;simp at i j k l;have t:=Ac d;clear d;go_enter func283,ntmps283;go_wp2_with fail;refine(Agu s v _).mono ?_;rintro e u ⟨rfl,a⟩;have c:=(Bn.alloc as9 _).trans (a.mono (by simp;omega));have g:=Ae a (Ak _ (Ah _ _)) (by simp;omega);have h:=Ae a (A2 (b:=w.heap.size+1) _ _ as9) as9;have o:=Aa g;have p:=Ag g;have n:=Aa h;have q:=Ag h;replace⟨a,c⟩:=H2 a c;clear g h i j k l;obtain⟨r,f⟩:=Ex (s.add v);rw[<-f];replace f:=Hh f;go_wp2;refine An (v:=r.1.val) (by simp[results,results283,go_sem,n]) rfl ⟨by rw[f.out],?_⟩
 repeat (refine Cn ?_ as9 _)
 exact c.out
def Ahd (whole:V4) (l:List St) (fr t_o:Int) (v:V4) (r:Int) (l':List St):Prop:=
 (Bf fr t_o v=false/\r=1/\l'=l)\/(Bf fr t_o v=true/\v.fits (Ld whole l fr t_o)=false/\r=60/\l'=l) \/
  (Bf fr t_o v=true/\v.fits (Ld whole l fr t_o)=true/\r=0/\Qr l fr t_o (λf=>(f.sub v).1) l')
def Abm (pb sb:Nat) (whole:V4) (R:Int->List St->Prop) (w:WD) (e:Ending) (w':WD):Prop:=
 ∃r sb' cap' l',e=Q (Z G r)/\R r l'/\Ce w' pb sb' cap' whole l'/\(sb'=sb\/w.heap.size<=sb')/\Mod (λb=>b=pb\/b=sb) w w'
def Ce.below {B a b cap:Nat}    (h:Ce w a b cap whole l) (c:BW B w w') (h1:a<B) (d:b<B):Ce w' a b cap whole l:=
 ⟨Ae c h.head h1,h.row.below c d,h.ne⟩
def Ce.drew {a b cap:Nat}    (h:Ce w a b cap whole l):Ce w.drew a b cap whole l:=⟨h.head,h.row.of_block rfl,h.ne⟩
def Ce.lt {a b cap:Nat}    (h:Ce w a b cap whole l):a<w.heap.size/\b<w.heap.size:=⟨Ac h.head,h.row.lt⟩
def Mf  {v:V4} (h:Bf fr t_o v=true):0<=fr/\fr<t_o/\t_o<=1099511627776/\v.right=true:=by
 simp[Bf]at h;exact⟨h.1.1.1,h.1.1.2,h.1.2,h.2⟩
def Ahe (pb sb cap:Nat) (whole:V4) (l:List St) (fr t_o:Int) (v:V4) (w:WD) (hp:Ce w pb sb cap whole l) (hl:B9 l) :
  CS prog 241 #[K (O ⟨pb,0,I⟩),Z G fr,Z G t_o,v.val] w (Abm pb sb whole (Ahd whole l fr t_o v) w):=by
 obtain⟨ad,af⟩:=hp.lt;replace⟨hp,hl⟩:=H2 hp hl;go_enter func241,ntmps241;go_wp2_with fail;refine(Ahc fr t_o v _).mono ?_;rintro e w2 ⟨rfl,n⟩;have g:=Bn.trans (n.mono as9);have t:=Ae n (Ah _ _) as9;have p:=hp.below g ad af;have s2:=g.size;have al:=Ac t;replace⟨n,g,p⟩:=H3 n g p;by_cases u:Bf fr t_o v=true
 .rw [u];obtain⟨b1,b2,b3,b4⟩:=Mf u;have x0:=Aa t 0;have x1:=Aa t 1;have x2:=Aa t 2;have x3:=Aa t 3;simp at x0 x1 x2 x3;replace⟨t,u,b4⟩:=H3 t u b4;go_wp2_with fail;have am:Hid (Ce w2.drew pb sb cap whole l):=p.drew;go_region_held3 (λw'=>w'.cell? ⟨w.heap.size,0,I⟩=O (Z G v.a)/\w'.cell? ⟨w.heap.size,1,I⟩=O (Z G v.b)/\w'.cell? ⟨w.heap.size,2,I⟩=O (Z G v.c)/\w'.cell? ⟨w.heap.size,3,I⟩=O (Z G v.d))
   (first
     | go_keep
     | (have _t:=m;go_split_ands;refine⟨?_,?_,?_,?_⟩<;>(rw[Af m ao9];assumption))
     | (go_split_ands;refine⟨?_,?_,?_,?_⟩<;>(rw[Af j (by simpa using al)];assumption)))
   (first
     | (go_at_call 277;refine(Arw pb sb cap whole l fr t_o _ am.out hl.out).mono ?_;rintro e w3 ⟨rfl,j⟩;have s3:=j.size;simp at s3)
     | (go_at_call 65;refine(Ww v (Ld whole l fr t_o) _).mono ?_;rintro e w4 ⟨rfl,m⟩))
  have i:=g.trans ((G2 j).mono (by simp;omega) |>.trans (m.mono ao9));have q:=hp.below i ad af;have g4:=Ae m (Ae (G2 j) t.out (by simpa using al)) ao9;have s4:=i.size;replace⟨q,i,g4,j,m⟩:=H5 q i g4 j m;by_cases hf:v.fits (Ld whole l fr t_o)=true
  .simp only[hf];replace hf:=Hh hf;go_wp2_with fail;refine(Ag7 pb sb cap w.heap.size v whole l fr t_o 279 (λf=>(f.sub v).1) _ q.out hl.out b1 b2 b3 g4.out ao9 ao9 Ar4 (λs w1 h=>Ar6 s v _ w1 h)).mono ?_;rintro e w5 ⟨rfl,an,ac,l',hc,y,z,x⟩;replace⟨hc,y,z,x⟩:=H4 hc y z x;go_wp2;go_ret;refine⟨0,an,ac,l',rfl,.inr (.inr ⟨u.out,hf.out,rfl,hc.out⟩),y.out,?_,(Mod.ag i.out).trans (x.mono λk _ h=>.inl h)⟩;rcases z.out with h|h
   .exact .inl h
   .exact .inr (Aw s4 h)
  .have o:v.fits (Ld whole l fr t_o)=false:=(by simpa using hf);simp only[o];replace o:=Hh o;clear hf;go_wp2;go_ret;exact⟨60,sb,cap,l,rfl,.inr (.inl ⟨u.out,o.out,rfl,rfl⟩),q.out,.inl rfl,Mod.ag i.out⟩
 .have r:Bf fr t_o v=false:=by simpa using u
  rw[r];replace r:=Hh r;clear u;go_wp2;go_ret;exact⟨1,sb,cap,l,rfl,.inl ⟨r.out,rfl,rfl⟩,p.out,.inl rfl,Mod.ag g.out⟩
def Km (l:List St) (aa:Int) (v:V4) (u:Int):Prop:=
 ∀k,k<l.length->(nth l k).t<u+aa->(k+1<l.length->u<(nth l (k+1)).t)->v.fits (nth l k).f=true
def Ij (l:List St) (after aa:Int) (v:V4) (t:Int) (is:Bool):Prop:=
 if 1<=aa/\v.right=true/\after<1099511627776 then
  (is=true/\max after 0<=t/\t+aa<=1099511627776/\Km l aa v t/\∀u,max after 0<=u->u<t->¬Km l aa v u) \/
   (is=false/\t=0/\∀u,max after 0<=u->u+aa<=1099511627776->¬Km l aa v u)
 else t=0/\is=false
def Asb (l:List St) (after aa:Int) (v:V4) (w:WD) (e:Ending) (w':WD):Prop:=
 ∃t is,e=Q (D #[Z G t,Y is])/\Ij l after aa v t is/\BW w.heap.size w w'
def Ahk  {d t:Int} {v:V4}  (g:B9 l) (b:Kk l t p) (n:∀j,p<=j->j<k->v.fits (nth l j).f=true) (a:k<l.length->t+d<=(nth l k).t):Km l d v t:=by
 intro j m h1 h
 have c:p<=j:=by
  apply Is;intro i;have:=h (by have:=b.1;omega);by_cases e:j+1=p
  .rw [e]at this;have:=b.2.1;omega
  .have:=g.bj (j+1) p ao9 b.1;have:=b.2.1;omega
 refine n j c ?_;apply Is;intro i;have o:=a ao9;by_cases e:j=k
 .subst e;omega
 .have:=g.bj k j ao9 m;omega
def Ahl  {a t u:Int} {v:V4}  (c:k<l.length) (h1:(nth l k).t<t+a) (b:v.fits (nth l k).f=false) (e:t<=u) (d:k+1<l.length->u<(nth l (k+1)).t):¬Km l a v u:=by
 intro h;have:=h k c ao9 d;rw[b]at this;cases this
def Asc (pb sb cap:Nat) (whole:V4) (l:List St) (after q:Int) (v:V4) (w:WD) (hp:Ce w pb sb cap whole l) (hl:B9 l) (ha:after<=9223372036854775807) :
  CS prog 287 #[K (O ⟨pb,0,I⟩),Z G after,Z G q,v.val] w (Asb l after q v w):=by
 obtain⟨aG,aH⟩:=hp.lt;have aU:=hl.len;replace⟨hp,hl⟩:=H2 hp hl;by_cases h1:1<=q
 .have aY:decide (q<1)=false:=by simp;omega
  go_enter func287,ntmps287;go_wp2_with fail;go_step3;go_wp2_with fail;refine(Iz v _).mono ?_;rintro e w2 ⟨rfl,aB⟩;have s:=Bn.trans (aB.mono as9);have g2:=Ae aB (Ah _ _) as9;have s2:=s.size;replace⟨aB,s,g2⟩:=H3 aB s g2;by_cases hr:v.right=true
  .rw [hr];replace hr:=Hh hr;by_cases aP:after<1099511627776
   .obtain ⟨A,hA⟩:=Ex (max after 0);have a3:(if after<0 then 0 else after)=A:=(by rw[hA];omega);have aW:0<=A:=ao9;have aO:A<1099511627776:=ao9;have aZ:decide (1099511627776<=after)=false:=(by simp;omega);replace hA:=Hh hA
    have n:Ij l after q v=λt is=>(is=true/\A<=t/\t+q<=1099511627776/\Km l q v t/\∀u,A<=u->u<t->¬Km l q v u)\/(is=false/\t=0/\∀u,A<=u->u+q<=1099511627776->¬Km l q v u):=by
     funext t is
     unfold Ij;rw[Ad ⟨h1,hr.out,aP⟩,<-hA.out]
    replace n:=Hh n;go_wp2;go_step3;go_wp2;go_loopw [10,11] (λap _ wr=>∃T:Int,ap=Z G T/\A<=T/\T<1099511627776/\Hid (BW w2.heap.size w2 wr)/\Hid (∀u,A<=u->u<T->¬Km l q v u)) (λap _ _=>1099511627776-(intOf ap).toNat)
    case atStart=>exact⟨A,rfl,Df _,aO,Below.refl _ _,by intro u h1 h2;omega⟩
    case round=>
     obtain⟨T,rfl,aJ,hT,aE,an⟩:=hrel;have av:=s.trans (aE.mono s2);have ao:=hp.below av aG aH;replace av:=Hh av;by_cases a5:q<=1099511627776-T
     .go_wp2_with fail;refine(X8 pb sb cap whole l T wr ao hl.out ao9 ao9).mono ?_;rintro e w3 ⟨p,rfl,y,aF⟩;have aV:=y.1;have ac:=aE.trans (aF.mono aE.size);replace⟨y,aF,ac,ao⟩:=H4 y aF ac ao;go_wp2;go_loopw [10,11] (λap aI wx=>∃k:Nat,ap=Z G T/\aI=Z G k/\k<=l.length/\p<=k/\Hid (BW w2.heap.size w2 wx)/\Hid (∀j,p<=j->j<k->v.fits (nth l j).f=true)) (λ_ aI _=>l.length-(intOf aI).toNat)
      case atStart=>exact⟨p,rfl,rfl,ao9,Nat.le_refl _,ac.out,by intro j h1 h2;omega⟩
      case round=>
       obtain⟨k,rfl,rfl,a2,a4,aA,al⟩:=hrel;have m:=s.trans (aA.mono s2);have r:=hp.below m aG aH;have q4:=Aa r.head 4;simp at q4;by_cases hk:k<l.length
       .have aQ:(k:Int)<l.length:=ao9;have a0:(0:Int)<=(k:Int):=ao9;obtain⟨c0,c1,c2,c3,c4⟩:=r.row.cells (i:=k) hk;by_cases aK:(nth l k).t<T+q
        .have gx:=Ae aA.out g2.out (Ac g2.out);have x0:=Aa gx 0;have x1:=Aa gx 1;have x2:=Aa gx 2;have x3:=Aa gx 3;simp at x0 x1 x2 x3;have aD:=Ac gx;have aT:=r.lt;obtain⟨aS,aC⟩:=aT;replace⟨gx,r,m⟩:=H3 gx r m;go_wp2_with fail
         go_region_held3 (λw'=>w'.cell? ⟨w.heap.size,0,I⟩=O (Z G v.a)/\w'.cell? ⟨w.heap.size,1,I⟩=O (Z G v.b)/\w'.cell? ⟨w.heap.size,2,I⟩=O (Z G v.c)/\w'.cell? ⟨w.heap.size,3,I⟩=O (Z G v.d)/\w'.cell? ⟨pb,4,I⟩=O (V (O ⟨sb,0,I⟩) l.length cap) /\
          w'.cell? ⟨sb,k*5+1,I⟩=O (Z G (nth l k).f.a)/\w'.cell? ⟨sb,k*5+2,I⟩=O (Z G (nth l k).f.b)/\w'.cell? ⟨sb,k*5+3,I⟩=O (Z G (nth l k).f.c)/\w'.cell? ⟨sb,k*5+4,I⟩=O (Z G (nth l k).f.d))
          (first
            | (go_keep;done)
            | (go_split_ands;refine⟨?_,?_,?_,?_,?_,?_,?_,?_,?_⟩
               · (rw[Af o (by simpa using aD)];assumption)
               · (rw[Af o (by simpa using aD)];assumption)
               · (rw[Af o (by simpa using aD)];assumption)
               · (rw[Af o (by simpa using aD)];assumption)
               · (rw[Af o (by simpa using aS)];assumption)
               · (rw[Af o (by simpa using aC)];assumption)
               · (rw[Af o (by simpa using aC)];assumption)
               · (rw[Af o (by simpa using aC)];assumption)
               · (rw[Af o (by simpa using aC)];assumption)))
          (first|(go_at_call 65;refine(Ww v (nth l k).f _).mono ?_;rintro e w4 ⟨rfl,o⟩))
         have ad:=aA.trans ((G2 o).mono (by have:=aA.size;simpa using this));have z:=s.trans (ad.mono s2);have x:=hp.below z aG aH;have r4:=Aa x.head 4;simp at r4;clear c0 c1 c2 c3 c4 x0 x1 x2 x3 q4;replace⟨o,ad,z⟩:=H3 o ad z;by_cases hf:v.fits (nth l k).f=true
         .simp only[hf];replace⟨hf,x⟩:=H2 hf x;go_wp2;go_roundw
          case rel=>
           refine⟨k+1,rfl,by go_num,ao9,ao9,ad.out,?_⟩;intro j h1 h2;by_cases e:j=k
           .subst e;exact hf.out
           .exact al.out j h1 ao9
          case measure=>simp[intOf];omega
         .have af:v.fits (nth l k).f=false:=(by simpa using hf);simp only[af];replace af:=Hh af;clear hf;by_cases am:k+1=l.length
          .have aR:((k:Int)+1 == (l.length:Int))=true:=by rw[M5];omega
           have g:Ij l after q v 0 false:=by
            rw[n.out];refine .inr ⟨rfl,rfl,λu h1 h2=>?_⟩;by_cases hu:u<T
            .exact an.out u h1 hu
            .exact Ahl hk aK af.out ao9 (λh=>by omega)
           replace⟨g,x,am⟩:=H3 g x am;go_wp2;go_ret2;exact⟨0,false,rfl,g.out,z.out⟩
          .have aR:((k:Int)+1 == (l.length:Int))=false:=(by rw[Bh];omega);have a1:(k:Int)+1<l.length:=ao9;obtain⟨d0,_,_,_,_⟩:=x.row.cells (i:=k+1) ao9;have aM:=hl.last (k+1) ao9
           have aX:T<(nth l (k+1)).t:=by
            by_cases e:k=p
            .rw [e];exact y.2.2 (p+1) ao9 ao9
            .have:=y.2.2 (k+1) ao9 ao9;exact this
           replace x:=Hh x;go_wp2;go_roundw
           case rel=>
            refine⟨(nth l (k+1)).t,rfl,ao9,aM,ad.out,?_⟩;intro u h1 h2;by_cases hu:u<T
            .exact an.out u h1 hu
            .exact Ahl hk aK af.out ao9 (λ_=>h2)
           case measure=>simp[intOf];omega
        .have aL:T+q<=(nth l k).t:=ao9;have g:Ij l after q v T true:=(by rw[n.out];exact .inl ⟨rfl,aJ,ao9,Ahk hl.out y.out al.out (λ_=>aL),an.out⟩);replace⟨g,r,m⟩:=H3 g r m;go_wp2;go_ret2;exact⟨T,true,rfl,g.out,m.out⟩
       .have aQ:¬(k:Int)<l.length:=ao9;have g:Ij l after q v T true:=(by rw[n.out];exact .inl ⟨rfl,aJ,ao9,Ahk hl.out y.out al.out (λh=>absurd h hk),an.out⟩);replace⟨g,r,m⟩:=H3 g r m;go_wp2;go_ret2;exact⟨T,true,rfl,g.out,m.out⟩
     .have g:Ij l after q v 0 false:=(by rw[n.out];exact .inr ⟨rfl,rfl,λu h1 h2=>an.out u h1 ao9⟩);replace⟨g,ao⟩:=H2 g ao;go_wp2;go_ret2;exact⟨0,false,rfl,g.out,av.out⟩
   .have hrel:Ij l after q v 0 false:=(by unfold Ij;rw[Ab ao9];exact⟨rfl,rfl⟩);replace hrel:=Hh hrel;go_wp2;rw[Lu];go_ret2;exact⟨0,false,rfl,hrel.out,s.out⟩
  .have aN:v.right=false:=(by simpa using hr);rw[aN];have hrel:Ij l after q v 0 false:=(by unfold Ij;rw[Ab (λh=>hr h.2.1)];exact⟨rfl,rfl⟩);replace hrel:=Hh hrel;clear hr aN;go_wp2;rw[Lu];go_ret2;exact⟨0,false,rfl,hrel.out,s.out⟩
 .have hrel:Ij l after q v 0 false:=by unfold Ij;rw[Ab ao9];exact⟨rfl,rfl⟩
  replace hrel:=Hh hrel;go_enter func287,ntmps287;go_wp2;go_step3;go_wp2;rw[Lu];go_ret2;exact⟨0,false,rfl,hrel.out,Bn⟩
def Abs (whole:V4) (w:WD) (e:Ending) (w':WD):Prop:=
 (whole.right=false/\e=Q (K I)/\BW w.heap.size w w') \/
  (whole.right=true/\∃pb sb,e=Q (K (O ⟨pb,0,I⟩))/\Ce w' pb sb 1 whole [⟨0,whole⟩]/\w.heap.size<=pb/\w.heap.size<=sb/\BW w.heap.size w w')
def Abt (whole:V4) (w:WD):CS prog 273 #[whole.val] w (Abs whole w):=by
 go_enter func273,ntmps273;go_wp2_with fail;refine(Iz whole _).mono ?_;rintro e f ⟨rfl,b⟩;have a:=Bn.trans (b.mono as9);have c:=Ae b (Ah _ _) as9;have h:=Aa c 0;have i:=Aa c 1;have j:=Aa c 2;have k:=Aa c 3;simp at h i j k;have g:=a.size;replace⟨a,b,c⟩:=H3 a b c;cases d:whole.right
 .replace d:=Hh d;go_wp2;go_ret;exact .inl ⟨d.out,rfl,a.out⟩
 .replace d:=Hh d;go_wp2;go_ret;refine .inr ⟨d.out,f.heap.size+1,f.heap.size,rfl,⟨?_,⟨as9,ad9,(⟨0,whole⟩:St).cells.toArray,?_,rfl,rfl⟩,ao9⟩,ao9,ao9,?_⟩
  .exact A2 _ _ as9
  .exact Ak _ (Ah _ _)
  .exact (a.alloc g _).alloc (by simp;omega) _
