/- Parts of a proof. No condition. -/
import Derived.Test.YtimlcnhcjndijaaGreatDoorJ02
import Derived.Deep.RegionHeld3
import Derived.Deep.AppendLies
import Derived.Deep.RegionLawGrows
import Derived.Lib.SmallJoins
set_option linter.all false
set_option maxRecDepth 100000
set_option maxHeartbeats 1600000
namespace Go.Proofs.YtimlcnhcjndijaaGreatDoor
open Option renaming some->O,none->I
open IntKind renaming i64->G
open Value renaming int->Z,slice->V,pointer->K,bool->Q,tuple->E
open Ending renaming returned->Y
open Obj renaming cells->J
open Go renaming World->WD,Value->VL,Calls->CS
open Go.RowKit renaming Below->BW
open Go.Proofs.Tryz
namespace Pl
open Go.RowKit
variable{fr t_o:Int}{M l:List St}{b c cap k m n p:Nat}{P:Program}{V9q whole:V4}{w w':WD}
def Yy:(prog.info? 398).map (λi=>(i.zero,i.size,i.bytes))=O (O (.agg #[Z G 0,Z G 0,Z G 0,Z G 0,Z G 0]),5,40):=by kernel_rfl
structure Mod (S:Nat->Prop) (w w':WD):Prop where
 os:w'.os=w.os
 tape:w'.tape=w.tape
 output:w'.output=w.output
 size:w.heap.size<=w'.heap.size
 block:∀k,k<w.heap.size->¬S k->w'.heap[k]?=w.heap[k]?
def Lk (l:List St) (k:Nat) (t:Int):List St:=l.take (k+1)++⟨t,(nth l k).f⟩::l.drop (k+1)
def Aic (pb sb cap:Nat) (whole:V4) (l:List St) (t:Int) (w:WD) (e:Ending) (w':WD):Prop:=
 ∃(n k sb' cap':Nat) (l':List St),e=Y (Z G n)/\Lj l t k/\(((nth l k).t=t/\l'=l/\n=k/\sb'=sb/\cap'=cap)\/((nth l k).t≠t/\l'=Lk l k t/\n=k+1/\w.heap.size<=sb')) /\
  Cx w' pb sb' cap' whole l'/\Mod (·=pb) w w'
def Ats (w:WD) (B:Nat) (s:St) (a:B<=w.heap.size):(w.alloc (J s.cells.toArray 398)).ownsRow B 398 5 (V (O ⟨w.heap.size,0,I⟩) 1 1) 1 s.cells:=
 ⟨rfl,.inr ⟨w.heap.size,1,s.cells.toArray,rfl,a,heap_alloc_new w _,Nat.le_refl _,ad9,rfl,rfl⟩⟩
def Row.tail  {a cap:Nat}  (h:Row w a cap l) (n:Nat) (k:n<=l.length):∀(j:Nat) (u:VL),(Bp (l.drop n))[j]?=O u->w.cell? ((⟨a,n*5,I⟩:Addr).add j)=O u:=by
 intro j u d;have i:=(An.1 d).1;rw[O5,Iw]at i
 have e:(⟨a,n*5,I⟩:Addr).add j=⟨a,n*5+j,I⟩:=by unfold Addr.add;split<;>simp_all
 have c:Bp l=Bp (l.take n)++Bp (l.drop n):=by rw[<-Acf,Mn]
 obtain⟨b,g,o,m⟩:=h.au;rw[e,Aa g]
 have:(Bp l)[n*5+j]?=b[n*5+j]?:=by rw[<-m,Mp,Ad ao9];simp
 rw[<-this,c,Ia (by rw[O5,Fl];omega),O5,Fl];have f:n*5+j-min n l.length*5=j:=by rw[Mu k];omega
 rw[f];exact d
def Row.front  {a cap:Nat}  (h:Row w a cap l) (n:Nat) (k:n<=l.length):∀(j:Nat) (u:VL),(Bp (l.take n))[j]?=O u->w.cell? ((⟨a,0,I⟩:Addr).add j)=O u:=by
 intro j u d;have g:=(An.1 d).1;rw[O5,Fl]at g
 have e:(⟨a,0,I⟩:Addr).add j=⟨a,j,I⟩:=by unfold Addr.add;split<;>simp_all
 have c:Bp l=Bp (l.take n)++Bp (l.drop n):=by rw[<-Acf,Mn]
 obtain⟨b,f,m,i⟩:=h.au;rw[e,Aa f]
 have:(Bp l)[j]?=b[j]?:=by rw[<-i,Mp,Ad ao9];simp
 rw[<-this,c,Fb (by rw[O5,Fl];omega)];exact d
def Aid (l:List St):∀u∈Bp l,u.oneCell'=true:=by
 intro u b;simp only[Bp,List.mem_flatMap]at b;obtain⟨s,_,a⟩:=b;simp[St.cells]at a
 rcases a with rfl|rfl|rfl|rfl|rfl<;>rfl
def Att  {r:Array Oper} {o:Oper} {a:Act}  {K9q:Act->WD->Prop} {Q9q:Exit->Act->WD->Prop} {E9q:Prop} (am:o.guard=I) (s x:Operand) (t:TypeId)
  (ho:o.op=.call { callee:=.builtin .append,args:=#[s,x],argTypes:=#[t,t] })
  (base:Nat) (e:TypeId) (i:TypeInfo) (z:VL) (size d:Nat) (ht:P.underlying t=O (.slice e)) (hi:P.info? e=O i) (hz:i.zero=O z)
  (p:i.size=size) (al:i.bytes=d) (ao:z.cells.size=size) (an:0<size)
  (v:VL) (n:Nat) (xs:List VL) (hs:a.eval s=v) (q:w.ownsRow base e size v n xs)
  (y:Addr) (m c:Nat) (b:List VL) (hx:a.eval x=V (O y) m c) (hl:b.length=m*size) (l:∀j u,b[j]?=O u->w.cell? (y.add j)=O u) (h1:∀u∈b,u.oneCell'=true)
  (hn:0<n) (ac:n+m<=maxLen) (f:(n+m)*d<=140737488355328) (k:base<=w.heap.size)
  (h:∀g cap w',w'.ownsRow base e size (V (O ⟨g,0,I⟩) (n+m) cap) (n+m) (xs++b)->w.grownBy w' v.ownBlock->K9q (a.put o.dst (V (O ⟨g,0,I⟩) (n+m) cap)) w') :
  if Region.wanted o (yielded r a.tmps)=true then Oper.wp P o a w K9q Q9q else E9q:=by
 have hw:Region.wanted o (yielded r a.tmps)=true:=by simp[Region.wanted,am]
 rw[Ad hw]
 exact wp_append_own w s x t ho base e i z size d ht hi hz p al ao an v n xs hs q y m c b hx hl l h1 ac f k λv' w' h2 h3 _=>by
  obtain⟨g,cap,rfl⟩:=Joins.ownsRow_form h2 ao9;exact h g cap w' h2 h3
def Acg (l:List St) (k:Nat) (t:Int) (a:k<l.length):(Lk l k t).length=l.length+1:=by
 simp[Lk];omega
def Atu (l:List St) (k:Nat) (t:Int):Bp (Lk l k t)=Bp (l.take (k+1))++((⟨t,(nth l k).f⟩:St).cells++Bp (l.drop (k+1))):=by
 simp[Lk,Bp]
def Row.tm  {base g cap n:Nat}  {xs:List VL} (h:w.ownsRow base 398 5 (V (O ⟨g,0,I⟩) n cap) n xs) (i:n=l.length) (o:xs=Bp l):Row w g cap l/\base<=g:=by
 obtain⟨_,h|⟨p,b,a,m,c,e,d,f,j,k⟩⟩:=h
 .cases h.1
 .cases m;subst i;refine⟨⟨d,?_,a,e,j,k.trans o⟩,c⟩;simpa only[maxLen]using f
def Mod.af {S:Nat->Prop}  (h:BW w.heap.size w w'):Mod S w w':=⟨h.os,h.tape,h.output,h.size,λk a _=>h.block k a⟩
def Mod.refl (S:Nat->Prop) (w:WD):Mod S w w:=⟨rfl,rfl,rfl,Nat.le_refl _,λ_ _ _=>rfl⟩
def Mod.trans {S:Nat->Prop} {w w1 e:WD} (h:Mod S w w1) (a:Mod (λk=>S k\/w.heap.size<=k) w1 e):Mod S w e:=
 ⟨a.os.trans h.os,a.tape.trans h.tape,a.output.trans h.output,A8 h.size a.size,λk d b=>(a.block k (Bq d h.size) (λc=>by rcases c with c|c;exact b c;omega)).trans (h.block k d b)⟩
def Mod.mono {S S':Nat->Prop}  (h:Mod S w w') (d:∀k,k<w.heap.size->S k->S' k):Mod S' w w':=⟨h.os,h.tape,h.output,h.size,λk a b=>h.block k a λc=>b (d k a c)⟩
def Mod.setCell {S:Nat->Prop} (w:WD) (b o:Nat) (v:VL) (a:S b):Mod S w (w.setCell ⟨b,o,I⟩ v):=
 ⟨rfl,rfl,rfl,by simp[World.setCell],λk _ c=>C1 _ _ _ _ (λe=>c (by simpa[e]using a))⟩
def Mod.grown {S:Nat->Prop}  {row:Option Nat} (h:w.grownBy w' row) (c:∀k,row=O k->S k):Mod S w w':=
 ⟨h.os,h.tape,h.output,h.size,λk b a=>h.block k b λe=>a (c k e.symm)⟩
def Mod.alloc (S:Nat->Prop) (w:WD) (o:Obj):Mod S w (w.alloc o):=Mod.af Bn
def Mod.drew {S:Nat->Prop}  (h:Mod S w w'):Mod S w w'.drew:=⟨h.os,h.tape,h.output,h.size,h.block⟩
def Atv {h v cap:Nat}   {t:Int} {w d r s:WD}  {X:Obj} {c1 c2:Nat}
  (j:BW w.heap.size w d) (_hpb:h<w.heap.size) (n:Cx d h v cap whole l) (q:Lj l t k) (ht:(nth l k).t≠t) (hm:m=l.length-(k+1))
  (a:(d.alloc X).drew.grownBy r (Value.slice (O ⟨d.heap.size,0,I⟩) c1 c2).ownBlock) (b:r.grownBy s I)
  (i:s.ownsRow r.heap.size 398 5 (V (O ⟨p,0,I⟩) (k+1+(1+m)) c) (k+1+(1+m)) (Bp (l.take (k+1))++((⟨t,(nth l k).f⟩:St).cells++Bp (l.drop (k+1)))))
  {e:Ending} (he:e=Y (Z G ((k:Int)+1))) :
  Aic h v cap whole l t w e (s.setCell ⟨h,4,I⟩ (V (O ⟨p,0,I⟩) (k+1+(1+m)) c)):=by
 have u:=q.1;have g:k+1+(1+m)=(Lk l k t).length:=by rw[Acg l k t u];omega
 obtain⟨x,hg⟩:=Row.tm i g (Atu l k t).symm;have o:=Ab n.head;have s1:d.heap.size<(d.alloc X).drew.heap.size:=as9
 have s2:=a.size;have s3:=j.size;have y:=(a.block h ao9 (by simp[Value.ownBlock];omega)).trans (Iv d X h o);have z:=b.block h ao9 as9;refine⟨k+1,k,p,c,Lk l k t,by rw[he];simp,q,.inr ⟨ht,rfl,rfl,ao9⟩,⟨?_,?_,ao9⟩,?_⟩
 .rw [Ap ((z.trans y).trans n.head)];simp[g]
 .exact x.of_block (C1 _ _ _ _ (show p≠h by omega))
 .refine Mod.trans (w1:=d) (Mod.af j) ?_;refine Mod.trans (w1:=s) ?_ (Mod.setCell _ _ _ _ (.inl (.inl rfl)));refine Mod.trans (w1:=r) ?_ (Mod.grown b as9);refine Mod.trans (w1:=(d.alloc X).drew) (Mod.drew (Mod.alloc _ _ _)) (Mod.grown a ?_);intro k q;simp[Value.ownBlock]at q;omega
def Atw (q d cap:Nat) (whole:V4) (l:List St) (t:Int) (w:WD) (z:Cx w q d cap whole l) (hl:Ct l) (h3:0<=t) (h4:t<=1099511627776) :
  CS prog 315 #[K (O ⟨q,0,I⟩),Z G t] w (Aic q d cap whole l t w):=by
 have aL:=hl.len;replace⟨z,hl⟩:=H2 z hl;obtain⟨i0,y,av,am,aA⟩:=Cf Yy;go_enter func315,ntmps315;go_wp2_with fail;refine(Yx q d cap whole l t w z.out hl.out h3 h4).mono ?_;rintro e o ⟨k,rfl,hk,r⟩;have c:Cx o q d cap whole l:=⟨Ae r z.head (Ab z.head),z.row.below r z.row.lt,z.ne⟩;have aD:=hk.1;have aK:(k:Int)<l.length:=ao9
 replace⟨hk,r⟩:=H2 hk r;have p4:=Aa c.head 4;have pf:=Ag c.head 4;simp at p4;obtain⟨c0,c1,c2,c3,c4⟩:=c.row.cells aD;have aJ:=c.row.le;have aC:=c.row.max;have lp:=Ab c.head;have ls:=c.row.lt;replace c:=Hh c;by_cases ht:(nth l k).t=t
 .have aH:((nth l k).t == t)=true:=by simpa using ht
  replace ht:=Hh ht;go_wp2;go_ret;exact⟨k,k,d,cap,l,rfl,hk.out,.inl ⟨ht.out,rfl,rfl,rfl,rfl⟩,c.out,Mod.af r.out⟩
 .have aH:((nth l k).t == t)=false:=by simpa using ht
  replace ht:=Hh ht;go_wp2_with fail;have aF:=Ate (i:=i0) Mq y d l.length cap (k+1) ((k:Int)+1) ao9 ao9;obtain⟨ta,m,mc,aG,ac,hm⟩:∃ta m mc,(∀w,(Instr.slice 361 (V (O ⟨d,0,I⟩) l.length cap) (O (Z G ((k:Int)+1))) I I).run prog w=.ok (V (O ta) m mc) w)/\(k+1<cap->ta=⟨d,(k+1)*i0.size,I⟩)/\Hid (m=l.length-(k+1)):=by obtain⟨ta,h1,h2⟩:=Si (i:=i0) Mq y d l.length cap (k+1) ((k:Int)+1) ao9 ao9;exact⟨ta,_,_,h1,h2,rfl⟩
  rw[am]at ac;replace ac:=Hh ac;have aE:=hm.out;have q1:=Hh (show(Bp (l.drop (k+1))).length=m*5 by rw[O5,Iw,hm.out])
  have q2:Hid (∀j u,(Bp (l.drop (k+1)))[j]?=O u->((o.alloc (J (⟨t,(nth l k).f⟩:St).cells.toArray 398)).drew).cell? (ta.add j)=O u):=by
   have h:=c.row.tail (k+1) ao9;intro j u hu;have hj:=(An.1 hu).1;rw[O5,Iw]at hj;have h2:=h j u hu;rw[ac ao9];refine(By (w:=o) ?_).trans h2
   have e:((⟨d,(k+1)*5,I⟩:Addr).add j).block=d:=by unfold Addr.add;split<;>rfl
   rw[e];exact Iv o _ d ls
  have q3:=Hh (show 1+m<=maxLen by simp only[maxLen];omega);have q4:=Hh (show(1+m)*40<=140737488355328 by omega);have q6:=Hh (show(Bp (l.take (k+1))).length=(k+1)*5 by rw[O5,Fl,Mu ao9]);have q7:=Hh (c.row.front (k+1) ao9);clear aE;have ad:=trivial;have s:q<(o.alloc (J (⟨t,(nth l k).f⟩:St).cells.toArray 398)).drew.heap.size:=by simp;omega
  have an:d<(o.alloc (J (⟨t,(nth l k).f⟩:St).cells.toArray 398)).drew.heap.size:=by simp;omega
  have x:O q≠(Value.slice (O ⟨o.heap.size,0,I⟩) 1 1).ownBlock:=by simp[Value.ownBlock];omega
  have ao:O d≠(Value.slice (O ⟨o.heap.size,0,I⟩) 1 1).ownBlock:=by simp[Value.ownBlock];omega
  replace⟨s,an,x,ao⟩:=H4 s an x ao;go_region_law
    (first
      | (have _t:=ad;refine Att (by rfl) _ _ _ (by rfl) (o.heap.size) 398 i0 _ 5 40 Mq y av am aA rfl ao9 _ 1 ((⟨t,(nth l k).f⟩:St).cells) (by rfl) ((Ats o o.heap.size ⟨t,(nth l k).f⟩ Ln).drew)
          ta m mc (Bp (l.drop (k+1))) (by rfl) q1.out q2.out (Aid _) ao9 q3.out q4.out as9 ?_
         intro g ap w3 p a;have aM:w3.cell? ⟨q,4,I⟩=O (V (O ⟨d,0,I⟩) l.length cap):=by rw[a.cell_far _ s.out x.out,By (w:=o) (Iv o _ q lp)];exact p4
         clear ad)
      | (have _t:=p;have hg:=a.size
         have aB:q<w3.heap.size:=by have:=s.out;simp at this hg;omega
         have s1:∀b,O (⟨d,0,I⟩:Addr)=O b->∀j u,(Bp (l.take (k+1)))[j]?=O u->w3.cell? (b.add j)=O u:=by
           intro b hb j u hu;cases hb;have h1:=q7 j u hu
           have al:((⟨d,0,I⟩:Addr).add j).block=d:=by unfold Addr.add;split<;>rfl
           rw[a.cell_far _ (by rw[al];exact an.out) (by rw[al];exact ao.out)];rw[By (w:=o) (by rw[al];exact Iv o _ d ls)];exact h1
         have s2:∀u∈(⟨t,(nth l k).f⟩:St).cells++Bp (l.drop (k+1)),u.oneCell'=true:=by
           intro u hu;rcases Dl.1 hu with h|h
           · simp[St.cells]at h
             rcases h with rfl|rfl|rfl|rfl|rfl<;>rfl
           · exact Aid _ u h
         have s3:k+1<k+1+(1+m):=ao9;have s4:k+1+(1+m)<=maxLen:=(by have:=hm.out;simp only[maxLen];omega);have s5:(k+1+(1+m))*40<=140737488355328:=(by have:=hm.out;omega);replace⟨s1,s2⟩:=H2 s1 s2;refine step_append_grows (by rfl) _ _ _ (by rfl) 398 i0 _ 5 40 Mq y av am aA rfl ao9 (O ⟨d,0,I⟩) (k+1) (k+1) (Bp (l.take (k+1))) (by rfl) as9 q6.out s1.out ⟨g,0,I⟩ (1+m) ap _ (by rfl) p.1 (p.cells rfl) s2.out s3 s4 s5 ?_;intro v3 w4 v n;obtain⟨g3,aI,rfl⟩:=Joins.ownsRow_form v ao9;have aO:w4.frozen? ⟨q,4,I⟩=false:=(by rw[n.frozen_far _ aB as9,a.frozen_far _ s.out x.out,Po (w:=o) (Iv o _ q lp)];exact pf);have aN:w4.cell? ⟨q,4,I⟩=O (V (O ⟨d,0,I⟩) l.length cap):=by rw[n.cell_far _ aB as9,a.cell_far _ s.out x.out,By (w:=o) (Iv o _ q lp)];exact p4
         clear s4 s5 s3))
  all_goals
   clear aF aG;go_wp2;go_ret;exact Atv r.out (Ab z.head) c.out hk.out ht.out hm.out a n v rfl
def At3 {z:Array VL}  (h1:∀v∈z,v.oneCell'=true) (c:0<z.size):∀v∈(Builtin.zeroCells z n).toList,v.oneCell'=true:=by
 intro v b;simp[Builtin.zeroCells]at b;obtain⟨a,d,rfl⟩:=b;apply h1;have:a % z.size<z.size:=Nat.mod_lt _ c;rw[getElem!_pos z _ this];exact Array.getElem_mem _
def At4    (h:Row w c cap M) (i:Nat) (x:i<=M.length) {ta:Addr} {m mc:Nat} (s:i<M.length->ta=⟨c,i*5,I⟩) (hm:m=M.length-i) :
  ∃w',(∀t,(Builtin.clear_ #[361] t #[V (O ta) m mc]).run prog w=.ok (.tuple #[]) w')/\Row w' c cap (M.take i)/\Mod (·=c) w w':=by
 obtain⟨h1,u,a,o,hs,y⟩:=h
 have p:Bp (M.take i)=(Bp M).take (i*5):=by
  have:Bp M=Bp (M.take i)++Bp (M.drop i):=by rw[<-Acf,Mn]
  rw[show(Bp M).take (i*5)=(Bp (M.take i)++Bp (M.drop i)).take (i*5) by rw[<-this]];have e1:i*5=(Bp (M.take i)).length:=by rw[O5,Fl,Mu x]
  rw[e1,List.take_left]
 by_cases q:i<M.length
 .obtain ⟨g,rfl⟩:∃g,m=g+1:=⟨m-1,ao9⟩;have f:=s q;obtain⟨Z9q,l⟩:=Ex ((Builtin.zeroCells #[Z G 0,Z G 0,Z G 0,Z G 0,Z G 0] (g+1)).toList);have e:∀v∈Z9q,v.oneCell'=true:=by rw[l];exact At3 (z:=#[Z G 0,Z G 0,Z G 0,Z G 0,Z G 0]) (n:=g+1) (by intro v hv;simp at hv;subst hv;rfl) ad9
  have b:Z9q.length=(g+1)*5:=by rw[l];simp[Builtin.zeroCells]
  have d:=run_storeCells_at (P:=prog) c (i*5) 398 Z9q 0 a w o (by rw[b];omega) e;simp only[Jo]at d;obtain⟨C,j⟩:=Ex ((a.toList.take (i*5)++Z9q++a.toList.drop (i*5+Z9q.length)).toArray);rw[<-j]at d;refine⟨w.setRow c C,λt=>?_,⟨?_,u,C,La w c a C 398 (0,0) o,?_,?_⟩,⟨rfl,rfl,rfl,by simp[World.setRow],λk _ hk=>Ug w c k C hk⟩⟩
  .subst f;simp[Builtin.clear_,Nw Mq,Value.cells,<-l,d]
  .simp;omega
  .rw [j];simp only[Wr,Cn,b];simp;omega
  .rw [j];simp only[Fl,Mu x];rw[K6,List.take_append_of_le_length (by simp;omega),Wz,Nat.min_self,p,<-y,Wz];congr 1;omega
 .have:i=M.length:=ao9
  subst this;have r:m=0:=ao9
  subst r;refine⟨w,λt=>?_,⟨by simpa using h1,u,a,o,hs,by simpa using y⟩,Mod.refl _ _⟩;simp[Builtin.clear_,Nw Mq]
def Aie (s u:St) (w:WD) :
  CS prog 317 #[s.val,u.val] w λe w'=>e=Y (Q (decide (s.f=u.f)))/\BW w.heap.size w w':=by
 have a:=At2 s.f u.f;go_enter func317,ntmps317;go_wp2;go_ret;exact⟨rfl,Bn.alloc as9 _⟩
def At5  {t e:TypeId} {i:TypeInfo} (d:P.underlying t=O (.slice e)) (f:P.info? e=O i) (b a cap n:Nat) (x:Int) (j:x=n) (g:n<=cap) (w:WD) :
  (Instr.slice t (V (O ⟨b,0,I⟩) a cap) I (O (Z G x)) I).run P w=.ok (V (O ⟨b,0,I⟩) n cap) w:=by
 subst j
 have h1:∀(y:Nat) (_:n<=y) c,(Instr.sliceBound (Z G (n:Int)) y c).run P w=.ok n w:=λy h c=>by
  simp[Instr.sliceBound,asIntOf,h]
 simp[Instr.slice,Instr.sliceBounds,Nw d,h1 cap g,sizeOf,typeInfo,f,Addr.add]
def Row.free  {a cap:Nat}  (h:Row w a cap l) (o:Nat):w.frozen? ⟨a,o,I⟩=false:=by
 obtain⟨_,_,b,h1,_⟩:=h;exact Ag h1 o
def I7 {B:Nat}  (h:BW B w.drew w'):BW B w w':=⟨h.os,h.tape,h.output,h.size,h.block⟩
def Y0 (sb cap:Nat) (l:List St) (w:WD) (e:Ending) (w':WD):Prop:=
 e=Y (V (O ⟨sb,0,I⟩) (Cg l).length cap)/\Row w' sb cap (Cg l)/\Mod (·=sb) w w'
def At6 (l:List St):(Cg l).length<=l.length:=by
 have a:∀(l:List St) p,(Gr p l).length<=l.length:=by
  intro l
  induction l with
  | nil=>intro p;simp[Gr]
  | cons s r ih=>
   intro p;simp only[Gr];split;· have:=ih s.f;simp;omega
   .have:=ih s.f;simp;omega
 cases l with
 | nil=>simp[Cg]
 | cons s r=>have:=a r s.f;simp[Cg];omega
def Aif (n cap:Nat) (l:List St) (w:WD) (hr:Row w n cap l) (aU:l.length<=2199023255552) :
  CS prog 316 #[V (O ⟨n,0,I⟩) l.length cap,.func (.func 317) #[] #[]] w (Y0 n cap l w):=by
 obtain⟨i0,aF,a3,aN,a4⟩:=Cf Yy;have aT:=hr.le;have aR:=hr.lt;replace hr:=Hh hr;go_enter func316,ntmps316;by_cases h2:l.length<2
 .have aO:(l.length:Int)<2:=ao9
  go_wp2;go_ret
  have e:Cg l=l:=by
   have:=Acj l l.length Ln (λi h0 h1=>by omega)
   rwa [C4 Ln]at this
  unfold Y0;rw[e];exact⟨rfl,hr.out,Mod.refl _ _⟩
 .have aO:¬(l.length:Int)<2:=ao9
  go_wp2;go_loopw [5,6,7] (λi _ _ wr=>∃a:Nat,a+1<=l.length/\i=Z G ((a:Int)+1)/\BW w.heap.size w wr/\Hid (∀k,0<k->k<a+1->(nth l k).f≠(nth l (k-1)).f)) (λi _ _ _=>l.length-(intOf i).toNat)
  case atStart=>exact⟨0,ao9,rfl,Below.refl _ _,by intro k h1 h2;omega⟩
  case round=>
   obtain⟨a,ha,rfl,hB,hk⟩:=hrel;have u:=hr.below hB aR;by_cases aY:a+1<l.length
   .have aJ:(a:Int)+1<l.length:=ao9;obtain⟨c0,c1,c2,c3,c4⟩:=u.cells (i:=a) ao9;obtain⟨d0,d1,d2,d3,d4⟩:=u.cells (i:=a+1) ao9;have a2:=hB.size;have aK:n<wr.heap.size:=ao9;replace⟨hB,u⟩:=H2 hB u;have e1:IntKind.i64.wrap ((a:Int)+1-1)=(a:Int):=(by rw[D4 _ ao9];omega);have e6:IntKind.i64.wrap (a:Int)=(a:Int):=(by rw[D4 _ ao9]);have e2:(0:Int)<=(a:Int)+1:=ao9;have e3:((a:Int)+1).toNat=a+1:=ao9;have e4:(a:Int)<l.length:=ao9;have e5:(0:Int)<=(a:Int):=ao9;go_wp2_with fail
    go_region_held3 (λw'=>w'.cell? ⟨n,a*5,I⟩=O (Z G (nth l a).t)/\w'.cell? ⟨n,a*5+1,I⟩=O (Z G (nth l a).f.a)/\w'.cell? ⟨n,a*5+2,I⟩=O (Z G (nth l a).f.b)/\w'.cell? ⟨n,a*5+3,I⟩=O (Z G (nth l a).f.c)/\w'.cell? ⟨n,a*5+4,I⟩=O (Z G (nth l a).f.d) /\
     w'.cell? ⟨n,(a+1)*5,I⟩=O (Z G (nth l (a+1)).t)/\w'.cell? ⟨n,(a+1)*5+1,I⟩=O (Z G (nth l (a+1)).f.a)/\w'.cell? ⟨n,(a+1)*5+2,I⟩=O (Z G (nth l (a+1)).f.b)/\w'.cell? ⟨n,(a+1)*5+3,I⟩=O (Z G (nth l (a+1)).f.c)/\w'.cell? ⟨n,(a+1)*5+4,I⟩=O (Z G (nth l (a+1)).f.d))
     (first
       | go_keep
       | (go_split_ands
          refine⟨?_,?_,?_,?_,?_,?_,?_,?_,?_,?_⟩<;>(rw[Af r (by simpa using aK)];assumption)))
     (first|(go_at_call 317;refine(Aie (nth l (a+1)) (nth l a) _).mono ?_;rintro e w2 ⟨rfl,r⟩))
    clear c0 c1 c2 c3 c4 d0 d1 d2 d3 d4 e1 e2 e3 e6;by_cases hf:(nth l (a+1)).f=(nth l a).f
    .have hd:decide ((nth l (a+1)).f=(nth l a).f)=true:=(by simpa using hf);rw[hd];clear hd;replace hf:=Hh hf;obtain⟨ta,aL,aS⟩:=Si (i:=i0) Mq aF n l.length cap (a+1) ((a:Int)+1) ao9 ao9;obtain rfl:=aS ao9;rw[aN]at aL;obtain⟨m,hm⟩:=Ex (l.length-(a+1));rw[<-hm]at aL;have aZ:m<=2199023255552:=ao9;replace hm:=Hh hm;have ac:=u.below (I7 r) (by simpa using aK);have y:Mod (·=n) w w2:=(Mod.af hB.out).trans (Mod.af (I7 r));replace⟨ac,y,r⟩:=H3 ac y r;go_wp2;go_loopw [5,7] (λi j wr=>∃(d b:Nat) (M:List St),d+1<=m/\j=Z G ((d:Int)+1)/\i=Z G b/\Hid (M.length=l.length)/\b<=a+1+d/\Hid (b=(Cg (l.take (a+1+(d+1)))).length)/\Hid (M.take b=Cg (l.take (a+1+(d+1))))/\Hid (∀k,a+1+d<=k->nth M k=nth l k)/\Hid (Row wr n cap M)/\Hid (Mod (·=n) w wr)) (λ_ j _=>m-(intOf j).toNat)
     case atStart=>
      have hc:=Acj l (a+1) ao9 hk.out;have aH:Cg (l.take (a+1+1))=l.take (a+1):=(by rw[Aci l (a+1) ao9 ao9,hc,Ad (by rw[Nat.add_sub_cancel];exact hf.out),Nv]);refine⟨0,a+1,l,by have:=hm.out;omega,rfl,as9,rfl,ao9,?_,?_,λk _=>rfl,ac.out,y.out⟩
      .show a+1=(Cg (l.take (a+1+(0+1)))).length;simp only[Db];rw[aH];simp;omega
      .show l.take (a+1)=Cg (l.take (a+1+(0+1)));simp only[Db];rw[aH]
     case round=>
      obtain⟨d,b,M,aX,rfl,rfl,av,aV,am,aB,aA,ap,aE⟩:=hrel;have ao:=hm.out;have al:=av.out;by_cases hd:d+1<m
      .have aQ:(d:Int)+1<m:=ao9;have aD:=ap.lt;obtain⟨c0,c1,c2,c3,c4⟩:=ap.cells (i:=a+1+d) ao9;obtain⟨d0,d1,d2,d3,d4⟩:=ap.cells (i:=a+1+(d+1)) ao9;simp only[Mv (a+1) d 5,Mv (a+1) (d+1) 5]at c0 c1 c2 c3 c4 d0 d1 d2 d3 d4;have e1:IntKind.i64.wrap ((d:Int)+1-1)=(d:Int):=(by rw[D4 _ ao9];omega);have e6:IntKind.i64.wrap (d:Int)=(d:Int):=(by rw[D4 _ ao9]);have e2:(0:Int)<=(d:Int)+1:=ao9;have e3:((d:Int)+1).toNat=d+1:=ao9;have e4:(d:Int)<m:=ao9;have e5:(0:Int)<=(d:Int):=ao9;clear ao al;go_wp2_with fail;go_region_held3 (λw'=>w'.cell? ⟨n,(a+1)*5+d*5,I⟩=O (Z G (nth M (a+1+d)).t)/\w'.cell? ⟨n,(a+1)*5+d*5+1,I⟩=O (Z G (nth M (a+1+d)).f.a)/\w'.cell? ⟨n,(a+1)*5+d*5+2,I⟩=O (Z G (nth M (a+1+d)).f.b)/\w'.cell? ⟨n,(a+1)*5+d*5+3,I⟩=O (Z G (nth M (a+1+d)).f.c)/\w'.cell? ⟨n,(a+1)*5+d*5+4,I⟩=O (Z G (nth M (a+1+d)).f.d)/\w'.cell? ⟨n,(a+1)*5+(d+1)*5,I⟩=O (Z G (nth M (a+1+(d+1))).t)/\w'.cell? ⟨n,(a+1)*5+(d+1)*5+1,I⟩=O (Z G (nth M (a+1+(d+1))).f.a)/\w'.cell? ⟨n,(a+1)*5+(d+1)*5+2,I⟩=O (Z G (nth M (a+1+(d+1))).f.b)/\w'.cell? ⟨n,(a+1)*5+(d+1)*5+3,I⟩=O (Z G (nth M (a+1+(d+1))).f.c)/\w'.cell? ⟨n,(a+1)*5+(d+1)*5+4,I⟩=O (Z G (nth M (a+1+(d+1))).f.d))
        (first
          | go_keep
          | (go_split_ands
             refine⟨?_,?_,?_,?_,?_,?_,?_,?_,?_,?_⟩<;>(rw[Af v (by simpa using aD)];assumption)))
        (first|(go_at_call 317;refine(Aie (nth M (a+1+(d+1))) (nth M (a+1+d)) _).mono ?_;rintro e w3 ⟨rfl,v⟩))
       clear c0 c1 c2 c3 c4 d0 d1 d2 d3 d4 e1 e2 e3 e6;have g:=ap.below (I7 v) (by simpa using aD);have o:=aE.trans (Mod.af (I7 v));have hx:nth M (a+1+(d+1))=nth l (a+1+(d+1)):=aA _ ao9;have hy:nth M (a+1+d)=nth l (a+1+d):=aA _ ao9;replace⟨hx,hy⟩:=H2 hx hy;have q:=Aci l (a+1+(d+1)) ao9 (by have:=hm.out;omega);replace q:=Hh q;by_cases s:(nth M (a+1+(d+1))).f=(nth M (a+1+d)).f
       .have an:decide ((nth M (a+1+(d+1))).f=(nth M (a+1+d)).f)=true:=(by simpa using s);simp only[an,Bool.not_true];clear an;have p:=q.out;rw[Ad (by rw[<-hx.out,show a+1+(d+1)-1=a+1+d by omega,<-hy.out];exact s),Nv]at p;replace⟨p,s,v,g,o⟩:=H5 p s v g o;go_wp2;go_roundw
        case rel=>
         refine⟨d+1,b,M,ao9,by go_num,rfl,av,ao9,?_,?_,λk hk=>aA.out k ao9,g.out,o.out⟩
         .show b=(Cg (l.take (a+1+(d+1)+1))).length;rw[p.out];exact am.out
         .show _=Cg (l.take (a+1+(d+1)+1));rw[p.out];exact aB.out
        case measure=>simp[intOf];omega
       .have an:decide ((nth M (a+1+(d+1))).f=(nth M (a+1+d)).f)=false:=(by simpa using s);simp only[an,Bool.not_false];clear an;have p:=q.out;rw[Ac (by rw[<-hx.out,show a+1+(d+1)-1=a+1+d by omega,<-hy.out];exact s)]at p;replace⟨p,s⟩:=H2 p s;have al:=av.out;have ao:=hm.out;obtain⟨d0,d1,d2,d3,d4⟩:=g.cells (i:=a+1+(d+1)) ao9;simp only[Mv (a+1) (d+1) 5]at d0 d1 d2 d3 d4;obtain⟨c0,c1,c2,c3,c4⟩:=g.cells (i:=b) ao9;have ff:=g.free;have e7:(b:Int)<l.length:=ao9;clear al ao;replace⟨v,g,o⟩:=H3 v g o;go_wp2;go_roundw
        case rel=>
         have al:=av.out;have ao:=hm.out;have aM:=g.ny b (nth M (a+1+(d+1))) ao9;refine⟨d+1,b+1,M.set b (nth M (a+1+(d+1))),ao9,by go_num,by go_num,by show(M.set _ _).length=_;rw[Dy];exact al,ao9,?_,?_,?_,aM,?_⟩
         .show b+1=(Cg (l.take (a+1+(d+1)+1))).length;rw[p.out,Cn,<-am.out];rfl
         .show (M.set b _).take (b+1)=Cg (l.take (a+1+(d+1)+1));rw[p.out,<-aB.out,<-hx.out];rw[U4 _ b (by rw[Dy];omega),Ach _ _ _ _ ao9,Ad rfl,List.take_set_of_le Ln]
         .intro k hk;rw[Ach _ _ _ _ ao9,Ac ao9];exact aA.out k ao9
         .refine o.trans ?_;refine(((Mod.setCell _ _ _ _ (.inl rfl)).trans (Mod.setCell _ _ _ _ (.inl (.inl rfl)))).trans (Mod.setCell _ _ _ _ (.inl (.inl rfl)))).trans (Mod.setCell _ _ _ _ (.inl (.inl rfl))) |>.trans (Mod.setCell _ _ _ _ (.inl (.inl rfl)))
        case measure=>simp[intOf];omega
      .have aC:d+1=m:=ao9;have aQ:¬(d:Int)+1<m:=ao9;have x:a+1+(d+1)=l.length:=ao9;rw[x,C4 Ln]at am aB;have aP:b<=M.length:=(by have h1:=am.out;have h2:=At6 l;omega);obtain⟨tb,a0,aG⟩:=Si (i:=i0) Mq aF n l.length cap b (b:Int) rfl ao9;have a1:=At5 (i:=i0) Mq aF n l.length cap b (b:Int) rfl ao9;obtain⟨w5,aW,ad,z⟩:=At4 ap.out b aP (ta:=tb) (m:=l.length-b) (mc:=cap-b) (λh=>by rw[aG ao9,aN]) ao9;replace⟨aG,ad,z,x,aC⟩:=H5 aG ad z x aC;clear ao al;go_wp2;go_ret
       have aI:Y0 n cap l w (Y (V (O ⟨n,0,I⟩) b cap)) w5:=by
        refine⟨by rw[am.out],?_,aE.trans (z.mono λk _ h=>.inl h)⟩;have:=ad.out
        rwa [aB.out]at this
       exact aI
    .have hd:decide ((nth l (a+1)).f=(nth l a).f)=false:=(by simpa using hf);rw[hd];clear hd;replace⟨hf,r⟩:=H2 hf r;go_wp2;go_roundw
     case rel=>
      refine⟨a+1,ao9,by go_num,hB.trans ((I7 r.out).mono (by simp;omega)),?_⟩;intro k h1 h2;by_cases e:k=a+1
      .subst e;exact hf.out
      .exact hk.out k h1 ao9
     case measure=>simp[intOf];omega
   .have aJ:¬(a:Int)+1<l.length:=ao9;replace⟨hB,u⟩:=H2 hB u;go_wp2;go_ret
    have e:Cg l=l:=by
     have:=Acj l l.length Ln (λi h0 h1=>hk.out i h0 ao9)
     rwa [C4 Ln]at this
    unfold Y0;rw[e];exact⟨rfl,u.out,Mod.af hB.out⟩
def Il (g:V4->V4) (i e:Nat) (l:List St):List St:=l.take i++((l.take e).drop i).map (λs=>⟨s.t,g s.f⟩)++l.drop e
def Aig (g:V4->V4) (i:Nat) (l:List St):Il g i i l=l:=by
 have:(l.take i).drop i=[]:=by rw[List.drop_eq_nil_iff];simp;omega
 simp[Il,this]
def S6 (g:V4->V4) (i e:Nat) (l:List St) (h:i<=e) (a:e<=l.length):(Il g i e l).length=l.length:=by
 simp[Il];omega
def S7 (g:V4->V4) (i e:Nat) (l:List St) (h:i<=e) (c:e<=l.length) (k:Nat) (a:k<l.length) :
  nth (Il g i e l) k=if i<=k/\k<e then⟨(nth l k).t,g (nth l k).f⟩else nth l k:=by
 simp only[Il,nth,Wb];by_cases h1:k<i
 .rw [K6,Fb (by simp;omega),Mp,Ad h1,Ac ao9]
 .by_cases b:k<e
  .rw [K6,Ia (by simp;omega),Fb (by simp;omega),Ad ao9];simp only[Fl,Mu (show i<=l.length by omega),A7,Om,Mp];rw[Ad ao9,show i+(k-i)=k by omega,A3 a];simp
  .rw [Ia (by simp;omega),Ac ao9];congr 1;simp only[Cn,Fl,Ar,Iw,Om];congr 1;omega
def At7 (l m:List St) (h:l.length=m.length) (a:∀k,k<l.length->nth l k=nth m k):l=m:=by
 apply List.ext_getElem h;intro i h1 b;have:=a i h1;simpa[nth,h1,b]using this
def Aih (g:V4->V4) (i e:Nat) (l:List St) (h:i<=e) (m:e<l.length):Il g i (e+1) l=(Il g i e l).set e ⟨(nth l e).t,g (nth l e).f⟩:=by
 have c:=S6 g i (e+1) l ao9 ao9;have j:=S6 g i e l h ao9;refine At7 _ _ (by simp[c,j]) λk b=>?_;rw[c]at b;rw[S7 g i (e+1) l ao9 ao9 k b,Ach _ _ _ _ ao9,S7 g i e l h ao9 k b];by_cases a:k=e
 .subst a;simp[h]
 .by_cases d:i<=k/\k<e
  .rw [Ad ao9,Ac a,Ad d]
  .rw [Ac ao9,Ac a,Ac d]
def Rf (l:List St) (t:Int) (n:Nat) (l':List St):Prop:=
 ∃k,Lj l t k/\(((nth l k).t=t/\l'=l/\n=k)\/((nth l k).t≠t/\l'=Lk l k t/\n=k+1))
def Aii (l:List St) (k:Nat) (t:Int) (b:k<l.length) (j:Nat) (a:j<l.length+1) :
  nth (Lk l k t) j=if j<=k then nth l j else if j=k+1 then⟨t,(nth l k).f⟩else nth l (j-1):=by
 simp only[Lk];by_cases h1:j<=k
 .rw [Ad h1,Atz _ _ _ (by simp;omega),Yz l (k+1) j ao9]
 .rw [Ac h1];obtain⟨d,rfl⟩:∃d,j=k+1+d:=⟨j-(k+1),ao9⟩;have e:nth (l.take (k+1)++⟨t,(nth l k).f⟩::l.drop (k+1)) (k+1+d)=nth (⟨t,(nth l k).f⟩::l.drop (k+1)) d:=by simp only[nth,Wb];rw[Ia (by simp;omega)];congr 2;simp;omega
  rw[e]
  cases d with
  | zero=>simp[nth]
  | succ d=>
   rw[Ac ao9,show k+1+(d+1)-1=k+1+d by omega];simp[nth]
def Rf.facts {l d:List St} {t:Int}  (h:Rf l t n d) (c:Ct l) (ht:t<1099511627776) :
  Ct d/\n<d.length/\(nth d n).t=t/\l.length<=d.length/\(∀j,j<l.length->(nth l j).t<t->j<n/\nth d j=nth l j)/\(∀j,j<d.length->∃i,i<l.length/\(nth d j).f=(nth l i).f):=by
 obtain⟨k,hk,h⟩:=h;obtain⟨r,k2,v⟩:=hk;rcases h with⟨h1,rfl,rfl⟩|⟨h1,rfl,rfl⟩
 .refine ⟨c,r,h1,Nat.le_refl _,λj b x=>⟨?_,rfl⟩,λj b=>⟨j,b,rfl⟩⟩;apply Gv;intro y;by_cases e:j=n
  .subst e;omega
  .have:=c.aw n j ao9 b;omega
 .have a:=Acg l k t r;have g:=Aii l k t r;have ac:(nth l k).t<t:=ao9
  refine⟨⟨ao9,by rw[g 0 ao9,Ad ao9];exact c.zero,?_,?_⟩,ao9,?_,ao9,?_,?_⟩
  .intro i j s b;rw[a]at b;rw[g i ao9,g j ao9];by_cases m:i<=k
   .rw [Ad m]
    have z:(nth l i).t<=(nth l k).t:=by
     by_cases e:i=k
     .subst e;omega
     .have:=c.aw i k ao9 r;omega
    by_cases p:j<=k
    .rw [Ad p];exact c.aw i j s ao9
    .rw [Ac p];by_cases q:j=k+1
     .rw [Ad q];show(nth l i).t<t;omega
     .rw [Ac q];exact c.aw i (j-1) ao9 ao9
   .rw [Ac m,Ac (show ¬j<=k by omega),Ac (show ¬j=k+1 by omega)];by_cases o:i=k+1
    .rw [Ad o];show t<_;exact v (j-1) ao9 ao9
    .rw [Ac o];exact c.aw (i-1) (j-1) ao9 ao9
  .intro i u;rw[a]at u;rw[g i u];split
   .exact c.last i ao9
   .split
    .exact ht
    .exact c.last (i-1) ao9
  .rw [g (k+1) ao9,Ac ao9,Ad rfl]
  .intro j b x
   have:j<=k:=by apply Gv;intro y;have:=v j ao9 b;omega
   exact⟨ao9,by rw[g j ao9,Ad this]⟩
  .intro j b;rw[a]at b;rw[g j b];split
   .exact ⟨j,ao9,rfl⟩
   .split
    .exact ⟨k,r,rfl⟩
    .exact ⟨j-1,ao9,rfl⟩
def Aij (c f cap:Nat) (whole:V4) (l:List St) (t:Int) (w:WD) (m:Cx w c f cap whole l) (j:Ct l) (g:0<=t) (i:t<=1099511627776) :
  CS prog 315 #[K (O ⟨c,0,I⟩),Z G t] w λe w'=>∃(n b a:Nat) (d:List St),e=Y (Z G n)/\Rf l t n d/\Cx w' c b a whole d/\(b=f\/w.heap.size<=b)/\Mod (·=c) w w':=
 (Atw c f cap whole l t w m j g i).mono λ_ _ ⟨n,k,b,a,d,he,hk,h,hp',hm⟩=>⟨n,b,a,d,he,⟨k,hk,by rcases h with h|h;exact .inl ⟨h.1,h.2.1,h.2.2.1⟩;exact .inr ⟨h.1,h.2.1,h.2.2.1⟩⟩,hp',by rcases h with h|h;exact .inl h.2.2.2.1;exact .inr h.2.2.2,hm⟩
def Rg (l:List St) (fr t_o:Int) (g:V4->V4) (l':List St):Prop:=
 ∃i l1 e l2,Rf l fr i l1/\((t_o<1099511627776/\Rf l1 t_o e l2)\/(t_o=1099511627776/\l2=l1/\e=l1.length))/\l'=Cg (Il g i e l2)
def Aik (pb sb:Nat) (whole:V4) (l:List St) (fr t_o:Int) (g:V4->V4) (w:WD) (e:Ending) (w':WD):Prop:=
 e=Y (.tuple #[])/\∃sb' cap' l',Rg l fr t_o g l'/\Cx w' pb sb' cap' whole l'/\(sb'=sb\/w.heap.size<=sb')/\Mod (λb=>b=pb\/b=sb) w w'
def Rh (pb sb vb:Nat) (V9q whole:V4) (w wr:WD) (sb2 cap2:Nat) (M:List St):Prop:=
 Cx wr pb sb2 cap2 whole M/\(sb2=sb\/w.heap.size<=sb2)/\Mod (λb=>b=pb\/b=sb) w wr/\wr.heap[vb]?=O (J V9q.cells 30 (0,0))/\vb≠pb/\vb≠sb2
def World.ml (w:WD) (sb i:Nat) (f:V4):WD:=
 (((w.setCell ⟨sb,i*5+1,I⟩ (Z G f.a)).setCell ⟨sb,i*5+2,I⟩ (Z G f.b)).setCell ⟨sb,i*5+3,I⟩ (Z G f.c)).setCell ⟨sb,i*5+4,I⟩ (Z G f.d)
def Row.ml    (h:Row w b cap l) (i:Nat) (f:V4) (g:i<l.length):Row (World.ml w b i f) b cap (l.set i ⟨(nth l i).t,f⟩):=by
 have n:=h.ny i ⟨(nth l i).t,f⟩ g;have d:=(h.cells g).1;refine n.of_block ?_;obtain⟨_,_,k,c,_⟩:=h
 have a:(w.setCell ⟨b,i*5,I⟩ (Z G (nth l i).t)).heap[b]?=w.heap[b]?:=by
  rw[Ap c,c];rw[Aa c]at d;congr 2;apply Array.ext
  .simp
  .intro j h1 m;rw[Array.getElem_setIfInBounds];split
   .next e=>subst e;rw[Pn m]at d;exact(Kn d).symm
   .rfl
 unfold World.ml World.ny;rw[Ap (Ap (Ap (Ap c _ _) _ _) _ _) _ _];rw[Ap (Ap (Ap (Ap (a.trans c) _ _) _ _) _ _) _ _]
def Mod.ml {S:Nat->Prop} (w:WD) (b i:Nat) (f:V4) (a:S b):Mod S w (World.ml w b i f):=
 (((Mod.setCell _ _ _ _ a).trans (Mod.setCell _ _ _ _ (.inl a))).trans (Mod.setCell _ _ _ _ (.inl a))).trans (Mod.setCell _ _ _ _ (.inl a))
def Ail {i s j:Nat}  {w wr g:WD} {c e:Nat}  (h:Rh i s j V9q whole w wr c e M) (d:BW wr.heap.size wr g) (a:Nat) (f:V4) (x:a<M.length) :
  Rh i s j V9q whole w (World.ml g c a f) c e (M.set a ⟨(nth M a).t,f⟩):=by
 obtain⟨⟨p,q,r⟩,m,u,n,v,o⟩:=h;have y:=Ab p;have z:=q.lt;have l3:=Ab n;have l:Mod (λb=>b=c) g (World.ml g c a f):=Mod.ml g c a f rfl;have s4:=d.size;refine⟨⟨?_,(q.below d z).ml a f x,r⟩,m,?_,?_,v,o⟩
 .rw [l.block i ao9 r,d.block i y,p,Dy]
 .refine (u.trans (Mod.af d)).trans (Mod.mono l ?_);rintro k _ rfl;rcases m with h|h
  .exact .inl (.inr h)
  .exact .inr h
 .rw [l.block j ao9 o,d.block j l3];exact n
def Aim {d m r:Nat}    {g:V4->V4} {w wr f:WD} {b a:Nat}  (h:Rh d m r V9q whole w wr b a M) (p:Rg l fr t_o g (Cg M))
  (n:Row f b a (Cg M)) (c:Mod (·=b) wr f):Aik d m whole l fr t_o g w (Y (.tuple #[])) (f.setCell ⟨d,4,I⟩ (V (O ⟨b,0,I⟩) (Cg M).length a)):=by
 obtain⟨⟨j,v,e⟩,i,o,s,t,u⟩:=h;have q:=Ab j;refine⟨rfl,b,a,Cg M,p,⟨?_,n.of_block (C1 _ _ _ _ (Qy e)),e⟩,i,?_⟩
 .rw [Ap ((c.block d q e).trans j)];simp
 .refine (o.trans (c.mono ?_)).trans (Mod.setCell _ _ _ _ (.inl (.inl rfl)));rintro k _ rfl;rcases i with h|h
  .exact .inl (.inr h)
  .exact .inr h
def Ain (pb sb cap vb:Nat) (V9q whole:V4) (l:List St) (fr t_o:Int) (F:FuncId) (g:V4->V4) (w:WD) (hp:Cx w pb sb cap whole l) (hl:Ct l)
  (h0:0<=fr) (h1:fr<t_o) (h2:t_o<=1099511627776) (hv:w.heap[vb]?=O (J V9q.cells 30 (0,0))) (aO:vb≠pb) (aU:vb≠sb)
  (hF:∀args w,(callFunc F args).run prog w=.ok (.enter F args) w)
  (H:∀(s:V4) (w1:WD),w1.heap[vb]?=O (J V9q.cells 30 (0,0))->CS prog F #[s.val,K (O ⟨vb,0,I⟩)] w1 λe w2=>e=Y (g s).val/\BW w1.heap.size w1 w2) :
  CS prog 278 #[K (O ⟨pb,0,I⟩),Z G fr,Z G t_o,.func (.func F) #[] #[K (O ⟨vb,0,I⟩)]] w (Aik pb sb whole l fr t_o g w):=by
 replace⟨H,hp,hl,hv,aO,aU⟩:=H6 H hp hl hv aO aU;go_enter func278,ntmps278;go_wp2_with fail;refine(Aij pb sb cap whole l fr w hp.out hl.out h0 ao9).mono ?_;rintro e w2 ⟨i,y,av,r,rfl,aD,aG,aM,aK⟩;obtain⟨aE,bc,aP,bk,aW,aX⟩:=aD.facts hl.out ao9;have p4:=Aa aG.head 4;simp at p4;have bd:=aE.len;have hC:Rh pb sb vb V9q whole w w2 y av r:=⟨aG,aM,aK.mono λk _ h=>.inl h,(aK.block vb (Ab hv.out) aO.out).trans hv.out,aO.out,by rcases aM with h|h;(rw[h];exact aU.out);(have:=Ab hv.out;omega)⟩;replace⟨hC,aD,aE,aG,aM,aK,aP,aW⟩:=H8 hC aD aE aG aM aK aP aW;replace aX:=Hh aX;by_cases a8:t_o<1099511627776
 .go_wp2_with fail;refine(Aij pb y av whole r t_o w2 aG.out aE.out ao9 h2).mono ?_;rintro e w3 ⟨n,ap,aA,l2,rfl,aJ,aT,aN,aL⟩;obtain⟨aR,bl,aZ,bn,aS,a0⟩:=aJ.facts aE.out a8;have aQ:i<=n:=by have:=aS i bc (by rw[aP.out];omega);omega
  have aB:Rh pb sb vb V9q whole w w3 ap aA l2:=by
   obtain⟨_,a2,a3,a4,a5,a6⟩:=hC.out;refine⟨aT,?_,a3.trans (aL.mono λk _ h=>.inl (.inl h)),(aL.block vb (Ab a4) a5).trans a4,a5,?_⟩
   .rcases aN with h|h
    .rw [h];exact a2
    .exact .inr (A8 a3.size h)
   .rcases aN with h|h
    .rw [h];exact a6
    .have:=Ab a4;omega
  have an:(t_o<1099511627776/\Rf r t_o n l2)\/(t_o=1099511627776/\l2=r/\n=r.length):=.inl ⟨a8,aJ⟩;have be:=aR.len;replace⟨aB,an,aR,aJ,aT,aN,aL,aZ⟩:=H8 aB an aR aJ aT aN aL aZ;replace⟨aS,a0⟩:=H2 aS a0;clear p4;go_wp2;go_loopw [10] (λk wr=>∃(a:Nat) (M:List St),i<=a/\a<=n/\k=Z G a/\Hid (M=Il g i a l2)/\Hid (Rh pb sb vb V9q whole w wr ap aA M)) (λk _=>n-(intOf k).toNat)
  case atStart=>exact⟨i,l2,Nat.le_refl _,aQ,rfl,(Aig g i l2).symm,aB.out⟩
  case round=>
   obtain⟨a,M,al,bb,rfl,hM,z⟩:=hrel;obtain⟨c,x,v,u,a1,a7⟩:=z.out;have q:M.length=l2.length:=(by rw[hM.out];exact S6 g i a l2 al ao9);have q4:=Aa c.head 4;have qf:=Ag c.head 4;simp at q4;have ao:=Ab c.head;have j:=c.row.lt;have aI:=c.ne;have a9:M.length<=1099511627777:=ao9;by_cases bf:a<n
   .have aF:(a:Int)<n:=ao9;have aC:a<M.length:=ao9;have aY:(a:Int)<M.length:=ao9;have ba:(0:Int)<=(a:Int):=ao9;obtain⟨c0,c1,c2,c3,c4⟩:=c.row.cells (i:=a) aC;have ff:=c.row.free;replace⟨q,c,x,v,u,ff⟩:=H6 q c x v u ff;have aV:Hid (wr.drew.heap[vb]?=O (J V9q.cells 30 (0,0))):=u.out;go_wp2_with fail;go_region_law
     (first
       | (go_simp
          (with_reducible refine(H.out (nth M a).f _ aV.out).mono ?_)
          rintro e w4 ⟨rfl,b⟩;replace b:=I7 b;have bg:=(Af b ao).trans q4;have d1:=(Af b (o:=a*5+1) j).trans c1;have d2:=(Af b (o:=a*5+2) j).trans c2;have d3:=(Af b (o:=a*5+3) j).trans c3;have d4:=(Af b (o:=a*5+4) j).trans c4;have f1:=(b.frozen (p:=⟨ap,a*5+1,I⟩) j).trans (ff _);have f2:=(b.frozen (p:=⟨ap,a*5+2,I⟩) j).trans (ff _);have f3:=(b.frozen (p:=⟨ap,a*5+3,I⟩) j).trans (ff _);have f4:=(b.frozen (p:=⟨ap,a*5+4,I⟩) j).trans (ff _)
          replace b:=Hh b))
    all_goals
     go_wp2;go_roundw
     case rel=>
      refine⟨a+1,M.set a ⟨(nth M a).t,g (nth M a).f⟩,ao9,ao9,by go_num,?_,Ail z.out b.out a (g (nth M a).f) aC⟩;show _=Il g i (a+1) l2;have hx:=S7 g i a l2 al ao9 a (by have:=q.out;omega);rw[Ac ao9,<-hM.out]at hx;rw[Aih g i a l2 al (by have:=q.out;omega),<-hM.out,hx]
     case measure=>simp[intOf];omega
   .have aF:¬(a:Int)<n:=ao9;have ad:a=n:=ao9;have ac:Rg l fr t_o g (Cg M):=⟨i,r,n,l2,aD.out,an.out,by rw[hM.out,ad]⟩;have am:=c.row;replace⟨ad,q,ac,c,x,v,u,am⟩:=H8 ad q ac c x v u am;go_wp2_with fail;refine(Aif ap aA M wr am.out ao9).mono ?_;rintro e w5 ⟨rfl,m,d⟩;have bi:=(By (w:=wr) (d.block pb ao aI)).trans q4;have bj:=(Po (w:=wr) (d.block pb ao aI)).trans qf;replace⟨m,d⟩:=H2 m d;go_wp2;go_end0;exact Aim z.out ac.out m.out d.out
 .have aH:t_o=1099511627776:=ao9
  have aQ:i<=r.length:=ao9
  have aB:=hC;replace aH:=Hh aH;go_wp2;go_loopw [10] (λk wr=>∃(a:Nat) (M:List St),i<=a/\a<=r.length/\k=Z G a/\Hid (M=Il g i a r)/\Hid (Rh pb sb vb V9q whole w wr y av M)) (λk _=>r.length-(intOf k).toNat)
  case atStart=>exact⟨i,r,Nat.le_refl _,aQ,rfl,(Aig g i r).symm,aB.out⟩
  case round=>
   obtain⟨a,M,al,bb,rfl,hM,z⟩:=hrel;obtain⟨c,x,v,u,a1,a7⟩:=z.out;have q:M.length=r.length:=(by rw[hM.out];exact S6 g i a r al ao9);have q4:=Aa c.head 4;have qf:=Ag c.head 4;simp at q4;have ao:=Ab c.head;have j:=c.row.lt;have aI:=c.ne;have a9:M.length<=1099511627777:=ao9;by_cases bf:a<r.length
   .have aF:(a:Int)<r.length:=ao9;have aC:a<M.length:=ao9;have aY:(a:Int)<M.length:=ao9;have ba:(0:Int)<=(a:Int):=ao9;obtain⟨c0,c1,c2,c3,c4⟩:=c.row.cells (i:=a) aC;have ff:=c.row.free;replace⟨q,c,x,v,u,ff⟩:=H6 q c x v u ff;have aV:Hid (wr.drew.heap[vb]?=O (J V9q.cells 30 (0,0))):=u.out;go_wp2_with fail;go_region_law
     (first
       | (go_simp
          (with_reducible refine(H.out (nth M a).f _ aV.out).mono ?_)
          rintro e w4 ⟨rfl,b⟩;replace b:=I7 b;have bg:=(Af b ao).trans q4;have d1:=(Af b (o:=a*5+1) j).trans c1;have d2:=(Af b (o:=a*5+2) j).trans c2;have d3:=(Af b (o:=a*5+3) j).trans c3;have d4:=(Af b (o:=a*5+4) j).trans c4;have f1:=(b.frozen (p:=⟨y,a*5+1,I⟩) j).trans (ff _);have f2:=(b.frozen (p:=⟨y,a*5+2,I⟩) j).trans (ff _);have f3:=(b.frozen (p:=⟨y,a*5+3,I⟩) j).trans (ff _);have f4:=(b.frozen (p:=⟨y,a*5+4,I⟩) j).trans (ff _)
          replace b:=Hh b))
    all_goals
     go_wp2;go_roundw
     case rel=>
      refine⟨a+1,M.set a ⟨(nth M a).t,g (nth M a).f⟩,ao9,ao9,by go_num,?_,Ail z.out b.out a (g (nth M a).f) aC⟩;show _=Il g i (a+1) r;have hx:=S7 g i a r al ao9 a (by have:=q.out;omega);rw[Ac ao9,<-hM.out]at hx;rw[Aih g i a r al (by have:=q.out;omega),<-hM.out,hx]
     case measure=>simp[intOf];omega
   .have aF:¬(a:Int)<r.length:=ao9;have ad:a=r.length:=ao9;have ac:Rg l fr t_o g (Cg M):=⟨i,r,r.length,r,aD.out,(.inr ⟨aH.out,rfl,rfl⟩),by rw[hM.out,ad]⟩;have am:=c.row;replace⟨ad,q,ac,c,x,v,u,am⟩:=H8 ad q ac c x v u am;go_wp2_with fail;refine(Aif y av M wr am.out ao9).mono ?_;rintro e w5 ⟨rfl,m,d⟩;have bi:=(By (w:=wr) (d.block pb ao aI)).trans q4;have bj:=(Po (w:=wr) (d.block pb ao aI)).trans qf;replace⟨m,d⟩:=H2 m d;go_wp2;go_end0;exact Aim z.out ac.out m.out d.out
def pl:List St->Int->Nat
 | [],_=>0
 | [_],_=>0
 | _ :: s :: r,t=>if s.t<=t then pl (s :: r) t+1 else 0
def J9 (s:St) (r:List St):nth (s :: r) 0=s:=rfl
def Ff (s:St) (r:List St) (i:Nat):nth (s :: r) (i+1)=nth r i:=by simp[nth]
def Ack {s:St} {r:List St} (h:Nb (s :: r)):Nb r:=by
 intro i j a b;have:=h (i+1) (j+1) ao9 (by simpa using b);simpa[Ff]using this
def Lj.rk  {t:Int}  (h:Lj l t k) (d:Nb l):k=pl l t:=by
 induction l generalizing k with
 | nil=>exact absurd h.1 as9
 | cons s r ih=>
  cases r with
  | nil=>have:=h.1;simp at this;simpa[pl]using this
  | cons s2 r2=>
   simp only[pl];obtain⟨h1,a,c⟩:=h;by_cases f:s2.t<=t
   .rw [Ad f]
    cases k with
    | zero=>have:=c 1 ao9 as9;simp only[Ff,J9]at this;omega
    | succ k=>
     have:=ih (k:=k) ⟨by simpa using h1,by simpa[Ff]using a,λj g b=>by have:=c (j+1) ao9 (by simpa using b);simpa[Ff]using this⟩ (Ack d);omega
   .rw [Ac f]
    cases k with
    | zero=>rfl
    | succ k=>
     exfalso;rw[Ff]at a;by_cases e:k=0
     .subst e;rw[J9]at a;omega
     .have:=d 1 (k+1) ao9 h1;simp only[Ff,J9]at this;omega
def P9 (v:V4) (b:Int):List St->V4
 | []=>v
 | s :: r=>if b<=s.t then v else P9 (v.least s.f) b r
def E0 (v:V4):List St->V4
 | []=>v
 | s :: r=>E0 (v.least s.f) r
def At8 (v:V4) (l:List St) (s:St):E0 v (l++[s])=(E0 v l).least s.f:=by
 induction l generalizing v with
 | nil=>rfl
 | cons a l ih=>exact ih _
def Aio (b:Int) (l:List St) (n:Nat) (c:n<=l.length):∀v,(∀j,j<n->(nth l j).t<b)->(n<l.length->b<=(nth l n).t)->P9 v b l=E0 v (l.take n):=by
 induction l generalizing n with
 | nil=>
  intro v _ _;have:n=0:=by simpa using c
  subst this;rfl
 | cons s r ih=>
  intro v h1 a
  cases n with
  | zero=>simp only[P9,List.take_zero,E0];rw[Ad (by have:=a as9;rwa [J9]at this)]
  | succ n=>
   simp only[P9,List.take_succ_cons,E0];rw[Ac (by have:=h1 0 ao9;rw[J9]at this;omega)];exact ih n (by simpa using c) _ (λj d=>by have:=h1 (j+1) ao9;rwa [Ff]at this) (λh=>by have:=a (by simpa using h);rwa [Ff]at this)
def Me (whole:V4) (l:List St) (fr t_o:Int):V4:=
 if min t_o 1099511627776<=max fr 0 then whole else P9 whole (min t_o 1099511627776) (l.drop (pl l (max fr 0)))
def N8 (l:List St) (k j:Nat):nth (l.drop k) j=nth l (k+j):=by simp[nth]
def Aip  {t e:TypeId} {i:TypeInfo} (d:P.underlying t=O (.slice e)) (f:P.info? e=O i) (b a cap n:Nat) (x:Int) (h:x=n) (k:n<a) (j:a<=cap) (size:Nat) (g:i.size=size) :
  ∃m mc,(∀w,(Instr.slice t (V (O ⟨b,0,I⟩) a cap) (O (Z G x)) I I).run P w=.ok (V (O ⟨b,n*size,I⟩) m mc) w)/\Hid (m=a-n):=by
 obtain⟨ta,h1,c⟩:=Si d f b a cap n x h ao9;obtain rfl:=c ao9;rw[g]at h1;exact⟨_,_,h1,rfl⟩
def At9   {k a m:Nat} {B:Int} (_hk:k<l.length) (e:m=l.length-k) (d:a<=m) (h1:∀j,j<a->(nth l (k+j)).t<B) (b:a<m->B<=(nth l (k+a)).t) :
  P9 whole B (l.drop k)=E0 whole ((l.drop k).take a):=
 Aio B (l.drop k) a (by rw[Iw];omega) whole (λj c=>by rw[N8];exact h1 j c) (λh=>by rw[N8];exact b (by rw[Iw]at h;omega))
def Aua (whole:V4) (l:List St) (k a:Nat) (h:k+a<l.length):(E0 whole ((l.drop k).take a)).least (nth l (k+a)).f=E0 whole ((l.drop k).take (a+1)):=by
 rw[U4 _ a (by rw[Iw];omega),At8,N8]
def Aub (u sb cap:Nat) (whole:V4) (l:List St) (fr t_o:Int) (w:WD) (o:Cx w u sb cap whole l) (hl:Ct l) :
  CS prog 277 #[K (O ⟨u,0,I⟩),Z G fr,Z G t_o] w λe w'=>e=Y (Me whole l fr t_o).val/\BW w.heap.size w w':=by
 obtain⟨i0,aE,aP,aG,aQ⟩:=Cf Yy;have aH:=hl.len;have an:=o.row.le;obtain⟨A,hA⟩:=Ex (max fr 0);obtain⟨B,hB⟩:=Ex (min t_o 1099511627776);have n:Me whole l fr t_o=if B<=A then whole else P9 whole B (l.drop (pl l A)):=by rw[hA,hB];rfl
 have c0:=Aa o.head 0;have c1:=Aa o.head 1;have c2:=Aa o.head 2;have c3:=Aa o.head 3;have c4:=Aa o.head 4;simp at c0 c1 c2 c3 c4;have ap:=Ab o.head;have av:=o.row.lt;replace⟨o,hl,n⟩:=H3 o hl n;go_enter func277,ntmps277;have aN:(if fr<0 then 0 else fr)=A:=by rw[hA];omega
 have aM:(if 1099511627776<t_o then 1099511627776 else t_o)=B:=by rw[hB];omega
 have aB:0<=A:=ao9
 have aJ:B<=1099511627776:=ao9
 replace⟨hA,hB⟩:=H2 hA hB;by_cases al:B<=A
 .replace n:=Hh (n.trans (Ad al));go_wp2;refine Al (v:=whole.val) (by simp[results,results277,go_sem]) rfl ⟨by rw[n.out],?_⟩;exact Bn.alloc as9 _
 .have aI:A<1099511627776:=ao9
  replace n:=Hh (n.trans (Ac al));go_wp2_with fail
  have p4:∀o1 o2,((w.alloc o1).alloc o2).drew.cell? ⟨u,4,I⟩=O (V (O ⟨sb,0,I⟩) l.length cap):=λo1 o2=>by
   rw[<-c4];exact By (w:=w) ((Iv _ o2 u (by simp;omega)).trans (Iv w o1 u ap))
  have ad:∀o1 o2,Cx ((w.alloc o1).alloc o2).drew u sb cap whole l:=λo1 o2=>by
   have hb:BW w.heap.size w ((w.alloc o1).alloc o2).drew:=(Bn.alloc as9 _).drew;exact⟨Ae hb o.head ap,o.row.below hb av,o.ne⟩
  replace⟨p4,ad⟩:=H2 p4 ad;go_region_held3 (λw'=>w'.cell? ⟨u,4,I⟩=O (V (O ⟨sb,0,I⟩) l.length cap))
   (first
     | go_keep
     | (rw[Af p (by simp;omega)];exact p4.out _ _))
   (first
     | (go_at_call 313;refine(Yx u sb cap whole l A _ (ad _ _) hl.out aB ao9).mono ?_;rintro e w2 ⟨k,rfl,hk,p⟩;obtain⟨m,mc,aO,hm⟩:=Aip (i:=i0) Mq aE sb l.length cap k (k:Int) rfl hk.1 an 5 aG;have aF:=hk.1
        replace hk:=Hh hk))
  have aL:m<=1099511627777:=by have:=hm.out;omega
  have ac:=hk.rk hl.aw;have s:Me whole l fr t_o=P9 whole B (l.drop k):=by rw[ac];exact n.out
  replace⟨ac,s⟩:=H2 ac s;have y:=((Bn.alloc as9 _).drew).trans (p.mono (by simp;omega));have g1:=Ae p (Ul (A6 (b:=w.heap.size+1) _ _ as9)) as9;have g0:=Ae p (Ul (Aj _ (Ah _ _))) (by simp;omega);replace⟨y,g0,g1,p⟩:=H4 y g0 g1 p;go_wp2;go_loopw [34] (λc wr=>∃a:Nat,a<=m/\c=Z G a/\BW w.heap.size w wr/\Hid (wr.heap[w.heap.size+1]?=O (J (E0 whole ((l.drop k).take a)).cells 30 (0,0)))/\Hid (wr.heap[w.heap.size]?=O (J V4.zero.cells 30 (0,0)))/\Hid (∀j,j<a->(nth l (k+j)).t<B)) (λc _=>m-(intOf c).toNat)
  case atStart=>exact⟨0,As _,rfl,y.out,g1.out,g0.out,by intro j hj;omega⟩
  case round=>
   obtain⟨a,aC,rfl,d,G1,G0,ao⟩:=hrel;have e1:=Aa G1.out;have e0:=Aa G0.out;have aA:=Ag G0.out;have x1:=e1 0;have x2:=e1 1;have x3:=e1 2;have x4:=e1 3;have y1:=e0 0;have y2:=e0 1;have y3:=e0 2;have y4:=e0 3;have l1:=Ab G1.out;have l0:=Ab G0.out;simp at x1 x2 x3 x4 y1 y2 y3 y4;clear e1 e0
   have g:∀(hd:a<m->B<=(nth l (k+a)).t),Me whole l fr t_o=E0 whole ((l.drop k).take a):=λhd=>by
    rw[s.out];exact At9 aF hm.out aC ao.out hd
   replace g:=Hh g;by_cases hc:a<m
   .have aD:(a:Int)<m:=ao9;have aK:(0:Int)<=(a:Int):=ao9;obtain⟨c0,c1,c2,c3,c4⟩:=(o.row.below d av).cells (i:=k+a) (by have:=hm.out;omega);simp only[Mv]at c0 c1 c2 c3 c4;by_cases hb:(nth l (k+a)).t<B
    .have am:¬B<=(nth l (k+a)).t:=ao9;go_wp2_with fail;refine(Ath (E0 whole ((l.drop k).take a)) (nth l (k+a)).f _).mono ?_;rintro e w4 ⟨rfl,r⟩;rw[Aua whole l k a (by have:=hm.out;omega)];have z:=(d.alloc d.size _).trans (r.mono (by have:=d.size;simp;omega));have q:=Ae r (Aj _ G1.out) (by simp;omega);have x:=Ae r (Aj _ G0.out) (by simp;omega);have z1:=Aa q;have zf:=Ag q;replace⟨q,x,z,r⟩:=H4 q x z r;clear x1 x2 x3 x4 y1 y2 y3 y4 c0 c1 c2 c3 c4 aA;replace d:=Hh d;go_wp2;go_roundw
     case rel=>
      refine⟨a+1,ao9,by go_num,?_,?_,?_,?_⟩
      .exact (((z.setCell as9 _).setCell as9 _).setCell as9 _).setCell as9 _
      .unfold Hid;rw[Ap (Ap (Ap (Ap q.out _ _) _ _) _ _) _ _];simp
      .exact Dn ao9 _ (Dn ao9 _ (Dn ao9 _ (Dn ao9 _ x.out)))
      .intro j hj;by_cases e:j=a
       .subst e;exact hb
       .exact ao.out j ao9
     case measure=>simp[intOf];omega
    .have am:B<=(nth l (k+a)).t:=ao9;replace g:=Hh (g (λ_=>am));replace d:=Hh d;go_wp2;refine Al (v:=(E0 whole ((l.drop k).take a)).val) (by simp[results,results277,go_sem,y1,y2,y3,y4,l0]) rfl ⟨by rw[g.out],?_⟩;refine Below.alloc ?_ (by have:=d.size;simpa using this) _;exact(((d.setCell Ln _).setCell Ln _).setCell Ln _).setCell Ln _
   .have aD:¬(a:Int)<m:=ao9;replace g:=Hh (g (λh=>absurd h hc));replace d:=Hh d;go_wp2;refine Al (v:=(E0 whole ((l.drop k).take a)).val) (by simp[results,results277,go_sem,y1,y2,y3,y4]) rfl ⟨by rw[g.out],?_⟩;exact(((d.setCell Ln _).setCell Ln _).setCell Ln _).setCell Ln _
def _root_.Go.Proofs.YtimlcnhcjndijaaGreatDoor.V4.ee (u v:V4):V4:=⟨max u.a v.a,max u.b v.b,max u.c v.c,max u.d v.d⟩
def Ri (v:V4) (b:Int):List St->V4
 | []=>v
 | s :: r=>if b<=s.t then v else Ri (v.ee s.f) b r
def Fg (v:V4):List St->V4
 | []=>v
 | s :: r=>Fg (v.ee s.f) r
def Auc (v:V4) (l:List St) (s:St):Fg v (l++[s])=(Fg v l).ee s.f:=by
 induction l generalizing v with
 | nil=>rfl
 | cons a l ih=>exact ih _
def Aiq (b:Int) (l:List St) (n:Nat) (c:n<=l.length):∀v,(∀j,j<n->(nth l j).t<b)->(n<l.length->b<=(nth l n).t)->Ri v b l=Fg v (l.take n):=by
 induction l generalizing n with
 | nil=>
  intro v _ _;have:n=0:=by simpa using c
  subst this;rfl
 | cons s r ih=>
  intro v h1 a
  cases n with
  | zero=>simp only[Ri,List.take_zero,Fg];rw[Ad (by have:=a as9;rwa [J9]at this)]
  | succ n=>
   simp only[Ri,List.take_succ_cons,Fg];rw[Ac (by have:=h1 0 ao9;rw[J9]at this;omega)];exact ih n (by simpa using c) _ (λj d=>by have:=h1 (j+1) ao9;rwa [Ff]at this) (λh=>by have:=a (by simpa using h);rwa [Ff]at this)
def Aud  {k a m:Nat} {B:Int} (e:m=l.length-k) (d:a<=m) (h1:∀j,j<a->(nth l (k+j)).t<B) (b:a<m->B<=(nth l (k+a)).t) :
  Ri V4.zero B (l.drop k)=Fg V4.zero ((l.drop k).take a):=
 Aiq B (l.drop k) a (by rw[Iw];omega) V4.zero (λj c=>by rw[N8];exact h1 j c) (λh=>by rw[N8];exact b (by rw[Iw]at h;omega))
def Aue (l:List St) (k a:Nat) (h:k+a<l.length):(Fg V4.zero ((l.drop k).take a)).ee (nth l (k+a)).f=Fg V4.zero ((l.drop k).take (a+1)):=by
 rw[U4 _ a (by rw[Iw];omega),Auc,N8]
def F8 (l:List St) (fr t_o:Int):V4:=Ri V4.zero t_o (l.drop (pl l fr))
def Auf (v:V4) (w:WD):(Instr.index 30 v.val (Z G 0)).run prog w=.ok (Z G v.a) w:=by kernel_rfl
def Aug (v:V4) (w:WD):(Instr.index 30 v.val (Z G 1)).run prog w=.ok (Z G v.b) w:=by kernel_rfl
def Auh (v:V4) (w:WD):(Instr.index 30 v.val (Z G 2)).run prog w=.ok (Z G v.c) w:=by kernel_rfl
def Aui (v:V4) (w:WD):(Instr.index 30 v.val (Z G 3)).run prog w=.ok (Z G v.d) w:=by kernel_rfl
def Air (r sb cap:Nat) (whole:V4) (l:List St) (fr t_o:Int) (w:WD) (q:Cx w r sb cap whole l) (hl:Ct l) (h0:0<=fr) (h1:fr<=1099511627776) :
  CS prog 282 #[K (O ⟨r,0,I⟩),Z G fr,Z G t_o] w λe w'=>e=Y (F8 l fr t_o).val/\BW w.heap.size w w':=by
 obtain⟨i0,aB,aJ,aD,aK⟩:=Cf Yy;have aE:=hl.len;have ad:=q.row.le;have c4:=Aa q.head 4;simp at c4;have am:=Ab q.head;have an:=q.row.lt;replace⟨q,hl⟩:=H2 q hl;go_enter func282,ntmps282;go_wp2_with fail
 have p4:∀y z,((w.alloc y).alloc z).drew.cell? ⟨r,4,I⟩=O (V (O ⟨sb,0,I⟩) l.length cap):=λy z=>by
  rw[<-c4];exact By (w:=w) ((Iv _ z r (by simp;omega)).trans (Iv w y r am))
 have x:∀y z,Cx ((w.alloc y).alloc z).drew r sb cap whole l:=λy z=>by
  have hb:BW w.heap.size w ((w.alloc y).alloc z).drew:=(Bn.alloc as9 _).drew;exact⟨Ae hb q.head am,q.row.below hb an,q.ne⟩
 replace⟨p4,x⟩:=H2 p4 x;go_region_held3 (λw'=>w'.cell? ⟨r,4,I⟩=O (V (O ⟨sb,0,I⟩) l.length cap))
  (first
    | go_keep
    | (rw[Af o (by simp;omega)];exact p4.out _ _))
  (first
    | (go_at_call 313;refine(Yx r sb cap whole l fr _ (x _ _) hl.out h0 h1).mono ?_;rintro e w2 ⟨k,rfl,hk,o⟩;obtain⟨m,mc,aI,hm⟩:=Aip (i:=i0) Mq aB sb l.length cap k (k:Int) rfl hk.1 ad 5 aD;have aG:=hk.1
       replace hk:=Hh hk))
 have aH:m<=1099511627777:=by have:=hm.out;omega
 have u:=hk.rk hl.aw;have p:F8 l fr t_o=Ri V4.zero t_o (l.drop k):=by rw[u];rfl
 replace⟨u,p⟩:=H2 u p;have s:=((Bn.alloc as9 _).drew).trans (o.mono (by simp;omega));have g1:=Ae o (Ul (A6 (b:=w.heap.size+1) _ _ as9)) as9;have g0:=Ae o (Ul (Aj _ (Ah _ _))) (by simp;omega);replace⟨s,g0,g1,o⟩:=H4 s g0 g1 o;go_wp2;go_loopw [10,11,21] (λ_ _ c wr=>∃a:Nat,a<=m/\c=Z G a/\BW w.heap.size w wr/\Hid (wr.heap[w.heap.size+1]?=O (J (Fg V4.zero ((l.drop k).take a)).cells 30 (0,0)))/\Hid (wr.heap[w.heap.size]?=O (J V4.zero.cells 30 (0,0)))/\Hid (∀j,j<a->(nth l (k+j)).t<t_o)) (λ_ _ c _=>m-(intOf c).toNat)
 case atStart=>exact⟨0,As _,rfl,s.out,g1.out,g0.out,by intro j hj;omega⟩
 case round=>
  obtain⟨a,av,rfl,n,G1,G0,al⟩:=hrel;obtain⟨X,hX⟩:=Ex (Fg V4.zero ((l.drop k).take a));rw[<-hX]at G1;have e1:=Aa G1.out;have e0:=Aa G0.out;have ao:=Ag G0.out;have x1:=e1 0;have x2:=e1 1;have x3:=e1 2;have x4:=e1 3;have y1:=e0 0;have y2:=e0 1;have y3:=e0 2;have y4:=e0 3;have l1:=Ab G1.out;have l0:=Ab G0.out;simp at x1 x2 x3 x4 y1 y2 y3 y4;clear e1 e0
  have g:∀(hd:a<m->t_o<=(nth l (k+a)).t),F8 l fr t_o=X:=λhd=>by
   rw[p.out,hX];exact Aud hm.out av al.out hd
  replace⟨g,hX⟩:=H2 g hX;by_cases hc:a<m
  .have aA:(a:Int)<m:=ao9;have aF:(0:Int)<=(a:Int):=ao9;obtain⟨c0,c1,c2,c3,c4⟩:=(q.row.below n an).cells (i:=k+a) (by have:=hm.out;omega);simp only[Mv]at c0 c1 c2 c3 c4;by_cases hb:(nth l (k+a)).t<t_o
   .have ac:¬t_o<=(nth l (k+a)).t:=ao9;obtain⟨F,hF⟩:=Ex ((nth l (k+a)).f);rw[<-hF]at c1 c2 c3 c4;replace hF:=Hh hF;clear y1 y2 y3 y4 ao;replace n:=Hh n;go_wp2;have ma:(if X.a<F.a then F.a else X.a)=(X.ee F).a:=(by simp only[V4.ee];omega);have mb:(if X.b<F.b then F.b else X.b)=(X.ee F).b:=(by simp only[V4.ee];omega);have mc:(if X.c<F.c then F.c else X.c)=(X.ee F).c:=(by simp only[V4.ee];omega);have md:(if X.d<F.d then F.d else X.d)=(X.ee F).d:=(by simp only[V4.ee];omega);have ff:=Ag G1.out;have i0:=Auf F;have i1:=Aug F;have i2:=Auh F;have i3:=Aui F;refine Ue 5 ?_;rw[Nz];go_wp2;rw[Nz];go_wp2;rw[Nz];go_wp2;rw[Nz];go_wp2;rw[Nz];go_wp2;go_roundw
    case rel=>
     have aC:=n.size;have ap:X.ee F=Fg V4.zero ((l.drop k).take (a+1)):=(by rw[hX.out,hF.out];exact Aue l k a (by have:=hm.out;omega));refine⟨a+1,ao9,by go_num,?_,?_,?_,?_⟩
     .refine Below.alloc ?_ (by simpa using aC) _;exact(((n.setCell as9 _).setCell as9 _).setCell as9 _).setCell as9 _
     .unfold Hid;refine Aj _ ?_;rw[Ap (Ap (Ap (Ap G1.out _ _) _ _) _ _) _ _,<-ap];simp
     .unfold Hid;exact Aj _ (Dn ao9 _ (Dn ao9 _ (Dn ao9 _ (Dn ao9 _ G0.out))))
     .intro j hj;by_cases e:j=a
      .subst e;exact hb
      .exact al.out j ao9
    case measure=>simp[intOf];omega
   .have ac:t_o<=(nth l (k+a)).t:=ao9;replace g:=Hh (g (λ_=>ac));replace n:=Hh n;go_wp2;refine Al (v:=X.val) (by simp[results,results282,go_sem,y1,y2,y3,y4,l0]) rfl ⟨by rw[g.out],?_⟩;refine Below.alloc ?_ (by have:=n.size;simpa using this) _;exact(((n.setCell Ln _).setCell Ln _).setCell Ln _).setCell Ln _
  .have aA:¬(a:Int)<m:=ao9;replace g:=Hh (g (λh=>absurd h hc));replace n:=Hh n;go_wp2;refine Al (v:=X.val) (by simp[results,results282,go_sem,y1,y2,y3,y4]) rfl ⟨by rw[g.out],?_⟩;exact(((n.setCell Ln _).setCell Ln _).setCell Ln _).setCell Ln _
def Bb (fr t_o:Int) (v:V4):Bool:=decide (0<=fr) && decide (fr<t_o) && decide (t_o<=1099511627776) && v.right
def Ais (fr t_o:Int) (v:V4) (w:WD) :
  CS prog 276 #[Z G fr,Z G t_o,v.val] w λe w'=>e=Y (Q (Bb fr t_o v))/\BW w.heap.size w w':=by
 by_cases h1:0<=fr
 .by_cases c:fr<t_o
  .by_cases d:t_o<=1099511627776
   .have a:Bb fr t_o v=v.right:=(by simp[Bb,h1,c,d]);rw[a];clear a;go_enter Xj,Xe;go_wp2_with fail;refine(J3 v _).mono ?_;rintro e f ⟨rfl,b⟩;go_wp2;go_ret;exact⟨rfl,Bn.trans (b.mono as9)⟩
   .have a:Bb fr t_o v=false:=(by simp[Bb,d]);rw[a];clear a;go_enter Xj,Xe;go_wp2;go_ret;exact⟨rfl,Bn⟩
  .have a:Bb fr t_o v=false:=(by simp[Bb,c]);rw[a];clear a;go_enter Xj,Xe;go_wp2;go_ret;exact⟨rfl,Bn⟩
 .have a:Bb fr t_o v=false:=by simp[Bb,h1]
  rw[a];clear a;go_enter Xj,Xe;go_wp2;go_ret;exact⟨rfl,Bn⟩
def Auj:∀args w,(callFunc 279 args).run prog w=.ok (.enter 279 args) w:=J2 func279 ad9 (by simp[f279])
def Auk:∀args w,(callFunc 283 args).run prog w=.ok (.enter 283 args) w:=J2 func283 ad9 (by simp[f283])
def Aul (s v:V4) (m:Nat) (w:WD) (d:w.heap[m]?=O (J v.cells 30 (0,0))) :
  CS prog 279 #[s.val,K (O ⟨m,0,I⟩)] w λe w'=>e=Y (s.sub v).1.val/\BW w.heap.size w w':=by
 have i:=Aa d 0;have j:=Aa d 1;have k:=Aa d 2;have l:=Aa d 3;simp at i j k l;have t:=Ab d;clear d;go_enter func279,ntmps279;go_wp2_with fail;refine(Atm s v _).mono ?_;rintro e u ⟨rfl,a⟩;have c:=(Bn.alloc as9 _).trans (a.mono (by simp;omega));have g:=Ae a (Aj _ (Ah _ _)) (by simp;omega);have h:=Ae a (A6 (b:=w.heap.size+1) _ _ as9) as9;have o:=Aa g;have p:=Ag g;have n:=Aa h;have q:=Ag h;replace⟨a,c⟩:=H2 a c;clear g h i j k l;obtain⟨r,f⟩:=Ex (s.sub v);rw[<-f];replace f:=Hh f;go_wp2;refine Al (v:=r.1.val) (by simp[results,results279,go_sem,n]) rfl ⟨by rw[f.out],?_⟩
 repeat (refine C6 ?_ as9 _)
 exact c.out
def Aum (s v:V4) (m:Nat) (w:WD) (d:w.heap[m]?=O (J v.cells 30 (0,0))) :
  CS prog 283 #[s.val,K (O ⟨m,0,I⟩)] w λe w'=>e=Y (s.add v).1.val/\BW w.heap.size w w':=by
 have i:=Aa d 0;have j:=Aa d 1;have k:=Aa d 2;have l:=Aa d 3;simp at i j k l;have t:=Ab d;clear d;go_enter func283,ntmps283;go_wp2_with fail;refine(Aia s v _).mono ?_;rintro e u ⟨rfl,a⟩;have c:=(Bn.alloc as9 _).trans (a.mono (by simp;omega));have g:=Ae a (Aj _ (Ah _ _)) (by simp;omega);have h:=Ae a (A6 (b:=w.heap.size+1) _ _ as9) as9;have o:=Aa g;have p:=Ag g;have n:=Aa h;have q:=Ag h;replace⟨a,c⟩:=H2 a c;clear g h i j k l;obtain⟨r,f⟩:=Ex (s.add v);rw[<-f];replace f:=Hh f;go_wp2;refine Al (v:=r.1.val) (by simp[results,results283,go_sem,n]) rfl ⟨by rw[f.out],?_⟩
 repeat (refine C6 ?_ as9 _)
 exact c.out
def Ait (whole:V4) (l:List St) (fr t_o:Int) (v:V4) (r:Int) (l':List St):Prop:=
 (Bb fr t_o v=false/\r=1/\l'=l)\/(Bb fr t_o v=true/\v.fits (Me whole l fr t_o)=false/\r=60/\l'=l) \/
  (Bb fr t_o v=true/\v.fits (Me whole l fr t_o)=true/\r=0/\Rg l fr t_o (λf=>(f.sub v).1) l')
def Acl (pb sb:Nat) (whole:V4) (R:Int->List St->Prop) (w:WD) (e:Ending) (w':WD):Prop:=
 ∃r sb' cap' l',e=Y (Z G r)/\R r l'/\Cx w' pb sb' cap' whole l'/\(sb'=sb\/w.heap.size<=sb')/\Mod (λb=>b=pb\/b=sb) w w'
def Cx.below {B a b cap:Nat}    (h:Cx w a b cap whole l) (c:BW B w w') (h1:a<B) (d:b<B):Cx w' a b cap whole l:=
 ⟨Ae c h.head h1,h.row.below c d,h.ne⟩
def Cx.drew {a b cap:Nat}    (h:Cx w a b cap whole l):Cx w.drew a b cap whole l:=⟨h.head,h.row.of_block rfl,h.ne⟩
def Cx.lt {a b cap:Nat}    (h:Cx w a b cap whole l):a<w.heap.size/\b<w.heap.size:=⟨Ab h.head,h.row.lt⟩
def Nc  {v:V4} (h:Bb fr t_o v=true):0<=fr/\fr<t_o/\t_o<=1099511627776/\v.right=true:=by
 simp[Bb]at h;exact⟨h.1.1.1,h.1.1.2,h.1.2,h.2⟩
def Aiu (pb sb cap:Nat) (whole:V4) (l:List St) (fr t_o:Int) (v:V4) (w:WD) (hp:Cx w pb sb cap whole l) (hl:Ct l) :
  CS prog 241 #[K (O ⟨pb,0,I⟩),Z G fr,Z G t_o,v.val] w (Acl pb sb whole (Ait whole l fr t_o v) w):=by
 obtain⟨ad,al⟩:=hp.lt;replace⟨hp,hl⟩:=H2 hp hl;go_enter func241,ntmps241;go_wp2_with fail;refine(Ais fr t_o v _).mono ?_;rintro e w2 ⟨rfl,n⟩;have g:=Bn.trans (n.mono as9);have t:=Ae n (Ah _ _) as9;have p:=hp.below g ad al;have s2:=g.size;have am:=Ab t;replace⟨n,g,p⟩:=H3 n g p;by_cases u:Bb fr t_o v=true
 .rw [u];obtain⟨b1,b2,b3,b4⟩:=Nc u;have x0:=Aa t 0;have x1:=Aa t 1;have x2:=Aa t 2;have x3:=Aa t 3;simp at x0 x1 x2 x3;replace⟨t,u,b4⟩:=H3 t u b4;go_wp2_with fail;have an:Hid (Cx w2.drew pb sb cap whole l):=p.drew;go_region_held3 (λw'=>w'.cell? ⟨w.heap.size,0,I⟩=O (Z G v.a)/\w'.cell? ⟨w.heap.size,1,I⟩=O (Z G v.b)/\w'.cell? ⟨w.heap.size,2,I⟩=O (Z G v.c)/\w'.cell? ⟨w.heap.size,3,I⟩=O (Z G v.d))
   (first
     | go_keep
     | (have _t:=m;go_split_ands;refine⟨?_,?_,?_,?_⟩<;>(rw[Af m ao9];assumption))
     | (go_split_ands;refine⟨?_,?_,?_,?_⟩<;>(rw[Af j (by simpa using am)];assumption)))
   (first
     | (go_at_call 277;refine(Aub pb sb cap whole l fr t_o _ an.out hl.out).mono ?_;rintro e w3 ⟨rfl,j⟩;have s3:=j.size;simp at s3)
     | (go_at_call 65;refine(Xo v (Me whole l fr t_o) _).mono ?_;rintro e w4 ⟨rfl,m⟩))
  have i:=g.trans ((I7 j).mono (by simp;omega) |>.trans (m.mono ao9));have q:=hp.below i ad al;have g4:=Ae m (Ae (I7 j) t.out (by simpa using am)) ao9;have s4:=i.size;replace⟨q,i,g4,j,m⟩:=H5 q i g4 j m;by_cases hf:v.fits (Me whole l fr t_o)=true
  .simp only[hf];replace hf:=Hh hf;go_wp2_with fail;refine(Ain pb sb cap w.heap.size v whole l fr t_o 279 (λf=>(f.sub v).1) _ q.out hl.out b1 b2 b3 g4.out ao9 ao9 Auj (λs w1 h=>Aul s v _ w1 h)).mono ?_;rintro e w5 ⟨rfl,ao,ac,l',hc,y,z,x⟩;replace⟨hc,y,z,x⟩:=H4 hc y z x;go_wp2;go_ret;refine⟨0,ao,ac,l',rfl,.inr (.inr ⟨u.out,hf.out,rfl,hc.out⟩),y.out,?_,(Mod.af i.out).trans (x.mono λk _ h=>.inl h)⟩;rcases z.out with h|h
   .exact .inl h
   .exact .inr (A8 s4 h)
  .have o:v.fits (Me whole l fr t_o)=false:=(by simpa using hf);simp only[o];replace o:=Hh o;clear hf;go_wp2;go_ret;exact⟨60,sb,cap,l,rfl,.inr (.inl ⟨u.out,o.out,rfl,rfl⟩),q.out,.inl rfl,Mod.af i.out⟩
 .have r:Bb fr t_o v=false:=by simpa using u
  rw[r];replace r:=Hh r;clear u;go_wp2;go_ret;exact⟨1,sb,cap,l,rfl,.inl ⟨r.out,rfl,rfl⟩,p.out,.inl rfl,Mod.af g.out⟩
def Ll (l:List St) (aa:Int) (v:V4) (u:Int):Prop:=
 ∀k,k<l.length->(nth l k).t<u+aa->(k+1<l.length->u<(nth l (k+1)).t)->v.fits (nth l k).f=true
def Ju (l:List St) (after aa:Int) (v:V4) (t:Int) (is:Bool):Prop:=
 if 1<=aa/\v.right=true/\after<1099511627776 then
  (is=true/\max after 0<=t/\t+aa<=1099511627776/\Ll l aa v t/\∀u,max after 0<=u->u<t->¬Ll l aa v u) \/
   (is=false/\t=0/\∀u,max after 0<=u->u+aa<=1099511627776->¬Ll l aa v u)
 else t=0/\is=false
def Auq (l:List St) (after aa:Int) (v:V4) (w:WD) (e:Ending) (w':WD):Prop:=
 ∃t is,e=Y (E #[Z G t,Q is])/\Ju l after aa v t is/\BW w.heap.size w w'
def Ai0  {d t:Int} {v:V4}  (g:Ct l) (b:Lj l t p) (n:∀j,p<=j->j<k->v.fits (nth l j).f=true) (a:k<l.length->t+d<=(nth l k).t):Ll l d v t:=by
 intro j m h1 h
 have c:p<=j:=by
  apply Gv;intro i;have:=h (by have:=b.1;omega);by_cases e:j+1=p
  .rw [e]at this;have:=b.2.1;omega
  .have:=g.aw (j+1) p ao9 b.1;have:=b.2.1;omega
 refine n j c ?_;apply Gv;intro i;have o:=a ao9;by_cases e:j=k
 .subst e;omega
 .have:=g.aw k j ao9 m;omega
def Ai1  {a t u:Int} {v:V4}  (c:k<l.length) (h1:(nth l k).t<t+a) (b:v.fits (nth l k).f=false) (e:t<=u) (d:k+1<l.length->u<(nth l (k+1)).t):¬Ll l a v u:=by
 intro h;have:=h k c ao9 d;rw[b]at this;cases this
def Aur (pb sb cap:Nat) (whole:V4) (l:List St) (after q:Int) (v:V4) (w:WD) (hp:Cx w pb sb cap whole l) (hl:Ct l) (ha:after<=9223372036854775807) :
  CS prog 287 #[K (O ⟨pb,0,I⟩),Z G after,Z G q,v.val] w (Auq l after q v w):=by
 obtain⟨aH,aI⟩:=hp.lt;have aV:=hl.len;replace⟨hp,hl⟩:=H2 hp hl;by_cases h1:1<=q
 .have aZ:decide (q<1)=false:=by simp;omega
  go_enter func287,ntmps287;go_wp2_with fail;go_step3;go_wp2_with fail;refine(J3 v _).mono ?_;rintro e w2 ⟨rfl,aC⟩;have s:=Bn.trans (aC.mono as9);have g2:=Ae aC (Ah _ _) as9;have s2:=s.size;replace⟨aC,s,g2⟩:=H3 aC s g2;by_cases hr:v.right=true
  .rw [hr];replace hr:=Hh hr;by_cases aQ:after<1099511627776
   .obtain ⟨A,hA⟩:=Ex (max after 0);have a4:(if after<0 then 0 else after)=A:=(by rw[hA];omega);have aX:0<=A:=ao9;have aP:A<1099511627776:=ao9;have a0:decide (1099511627776<=after)=false:=(by simp;omega);replace hA:=Hh hA
    have n:Ju l after q v=λt is=>(is=true/\A<=t/\t+q<=1099511627776/\Ll l q v t/\∀u,A<=u->u<t->¬Ll l q v u)\/(is=false/\t=0/\∀u,A<=u->u+q<=1099511627776->¬Ll l q v u):=by
     funext t is
     unfold Ju;rw[Ad ⟨h1,hr.out,aQ⟩,<-hA.out]
    replace n:=Hh n;go_wp2;go_step3;go_wp2;go_loopw [10,11] (λav _ wr=>∃T:Int,av=Z G T/\A<=T/\T<1099511627776/\Hid (BW w2.heap.size w2 wr)/\Hid (∀u,A<=u->u<T->¬Ll l q v u)) (λav _ _=>1099511627776-(intOf av).toNat)
    case atStart=>exact⟨A,rfl,Dc _,aP,Below.refl _ _,by intro u h1 h2;omega⟩
    case round=>
     obtain⟨T,rfl,aK,hT,aF,ao⟩:=hrel;have aA:=s.trans (aF.mono s2);have ap:=hp.below aA aH aI;replace aA:=Hh aA;by_cases a6:q<=1099511627776-T
     .go_wp2_with fail;refine(Yx pb sb cap whole l T wr ap hl.out ao9 ao9).mono ?_;rintro e w3 ⟨p,rfl,y,aG⟩;have aW:=y.1;have ac:=aF.trans (aG.mono aF.size);replace⟨y,aG,ac,ap⟩:=H4 y aG ac ap;go_wp2;go_loopw [10,11] (λav aJ wx=>∃k:Nat,av=Z G T/\aJ=Z G k/\k<=l.length/\p<=k/\Hid (BW w2.heap.size w2 wx)/\Hid (∀j,p<=j->j<k->v.fits (nth l j).f=true)) (λ_ aJ _=>l.length-(intOf aJ).toNat)
      case atStart=>exact⟨p,rfl,rfl,ao9,Nat.le_refl _,ac.out,by intro j h1 h2;omega⟩
      case round=>
       obtain⟨k,rfl,rfl,a3,a5,aB,am⟩:=hrel;have m:=s.trans (aB.mono s2);have r:=hp.below m aH aI;have q4:=Aa r.head 4;simp at q4;by_cases hk:k<l.length
       .have aR:(k:Int)<l.length:=ao9;have a1:(0:Int)<=(k:Int):=ao9;obtain⟨c0,c1,c2,c3,c4⟩:=r.row.cells (i:=k) hk;by_cases aL:(nth l k).t<T+q
        .have gx:=Ae aB.out g2.out (Ab g2.out);have x0:=Aa gx 0;have x1:=Aa gx 1;have x2:=Aa gx 2;have x3:=Aa gx 3;simp at x0 x1 x2 x3;have aE:=Ab gx;have aU:=r.lt;obtain⟨aT,aD⟩:=aU;replace⟨gx,r,m⟩:=H3 gx r m;go_wp2_with fail
         go_region_held3 (λw'=>w'.cell? ⟨w.heap.size,0,I⟩=O (Z G v.a)/\w'.cell? ⟨w.heap.size,1,I⟩=O (Z G v.b)/\w'.cell? ⟨w.heap.size,2,I⟩=O (Z G v.c)/\w'.cell? ⟨w.heap.size,3,I⟩=O (Z G v.d)/\w'.cell? ⟨pb,4,I⟩=O (V (O ⟨sb,0,I⟩) l.length cap) /\
          w'.cell? ⟨sb,k*5+1,I⟩=O (Z G (nth l k).f.a)/\w'.cell? ⟨sb,k*5+2,I⟩=O (Z G (nth l k).f.b)/\w'.cell? ⟨sb,k*5+3,I⟩=O (Z G (nth l k).f.c)/\w'.cell? ⟨sb,k*5+4,I⟩=O (Z G (nth l k).f.d))
          (first
            | (go_keep;done)
            | (go_split_ands;refine⟨?_,?_,?_,?_,?_,?_,?_,?_,?_⟩
               · (rw[Af o (by simpa using aE)];assumption)
               · (rw[Af o (by simpa using aE)];assumption)
               · (rw[Af o (by simpa using aE)];assumption)
               · (rw[Af o (by simpa using aE)];assumption)
               · (rw[Af o (by simpa using aT)];assumption)
               · (rw[Af o (by simpa using aD)];assumption)
               · (rw[Af o (by simpa using aD)];assumption)
               · (rw[Af o (by simpa using aD)];assumption)
               · (rw[Af o (by simpa using aD)];assumption)))
          (first|(go_at_call 65;refine(Xo v (nth l k).f _).mono ?_;rintro e w4 ⟨rfl,o⟩))
         have ad:=aB.trans ((I7 o).mono (by have:=aB.size;simpa using this));have z:=s.trans (ad.mono s2);have x:=hp.below z aH aI;have r4:=Aa x.head 4;simp at r4;clear c0 c1 c2 c3 c4 x0 x1 x2 x3 q4;replace⟨o,ad,z⟩:=H3 o ad z;by_cases hf:v.fits (nth l k).f=true
         .simp only[hf];replace⟨hf,x⟩:=H2 hf x;go_wp2;go_roundw
          case rel=>
           refine⟨k+1,rfl,by go_num,ao9,ao9,ad.out,?_⟩;intro j h1 h2;by_cases e:j=k
           .subst e;exact hf.out
           .exact am.out j h1 ao9
          case measure=>simp[intOf];omega
         .have al:v.fits (nth l k).f=false:=(by simpa using hf);simp only[al];replace al:=Hh al;clear hf;by_cases an:k+1=l.length
          .have aS:((k:Int)+1 == (l.length:Int))=true:=by rw[Mw];omega
           have g:Ju l after q v 0 false:=by
            rw[n.out];refine .inr ⟨rfl,rfl,λu h1 h2=>?_⟩;by_cases hu:u<T
            .exact ao.out u h1 hu
            .exact Ai1 hk aL al.out ao9 (λh=>by omega)
           replace⟨g,x,an⟩:=H3 g x an;go_wp2;go_ret2;exact⟨0,false,rfl,g.out,z.out⟩
          .have aS:((k:Int)+1 == (l.length:Int))=false:=(by rw[Br];omega);have a2:(k:Int)+1<l.length:=ao9;obtain⟨d0,_,_,_,_⟩:=x.row.cells (i:=k+1) ao9;have aN:=hl.last (k+1) ao9
           have aY:T<(nth l (k+1)).t:=by
            by_cases e:k=p
            .rw [e];exact y.2.2 (p+1) ao9 ao9
            .have:=y.2.2 (k+1) ao9 ao9;exact this
           replace x:=Hh x;go_wp2;go_roundw
           case rel=>
            refine⟨(nth l (k+1)).t,rfl,ao9,aN,ad.out,?_⟩;intro u h1 h2;by_cases hu:u<T
            .exact ao.out u h1 hu
            .exact Ai1 hk aL al.out ao9 (λ_=>h2)
           case measure=>simp[intOf];omega
        .have aM:T+q<=(nth l k).t:=ao9;have g:Ju l after q v T true:=(by rw[n.out];exact .inl ⟨rfl,aK,ao9,Ai0 hl.out y.out am.out (λ_=>aM),ao.out⟩);replace⟨g,r,m⟩:=H3 g r m;go_wp2;go_ret2;exact⟨T,true,rfl,g.out,m.out⟩
       .have aR:¬(k:Int)<l.length:=ao9;have g:Ju l after q v T true:=(by rw[n.out];exact .inl ⟨rfl,aK,ao9,Ai0 hl.out y.out am.out (λh=>absurd h hk),ao.out⟩);replace⟨g,r,m⟩:=H3 g r m;go_wp2;go_ret2;exact⟨T,true,rfl,g.out,m.out⟩
     .have g:Ju l after q v 0 false:=(by rw[n.out];exact .inr ⟨rfl,rfl,λu h1 h2=>ao.out u h1 ao9⟩);replace⟨g,ap⟩:=H2 g ap;go_wp2;go_ret2;exact⟨0,false,rfl,g.out,aA.out⟩
   .have hrel:Ju l after q v 0 false:=(by unfold Ju;rw[Ac ao9];exact⟨rfl,rfl⟩);replace hrel:=Hh hrel;go_wp2;rw[Jm];go_ret2;exact⟨0,false,rfl,hrel.out,s.out⟩
  .have aO:v.right=false:=(by simpa using hr);rw[aO];have hrel:Ju l after q v 0 false:=(by unfold Ju;rw[Ac (λh=>hr h.2.1)];exact⟨rfl,rfl⟩);replace hrel:=Hh hrel;clear hr aO;go_wp2;rw[Jm];go_ret2;exact⟨0,false,rfl,hrel.out,s.out⟩
 .have hrel:Ju l after q v 0 false:=by unfold Ju;rw[Ac ao9];exact⟨rfl,rfl⟩
  replace hrel:=Hh hrel;go_enter func287,ntmps287;go_wp2;go_step3;go_wp2;rw[Jm];go_ret2;exact⟨0,false,rfl,hrel.out,Bn⟩
def Acr (whole:V4) (w:WD) (e:Ending) (w':WD):Prop:=
 (whole.right=false/\e=Y (K I)/\BW w.heap.size w w') \/
  (whole.right=true/\∃pb sb,e=Y (K (O ⟨pb,0,I⟩))/\Cx w' pb sb 1 whole [⟨0,whole⟩]/\w.heap.size<=pb/\w.heap.size<=sb/\BW w.heap.size w w')
def Acs (whole:V4) (w:WD):CS prog 273 #[whole.val] w (Acr whole w):=by
 go_enter func273,ntmps273;go_wp2_with fail;refine(J3 whole _).mono ?_;rintro e f ⟨rfl,b⟩;have a:=Bn.trans (b.mono as9);have c:=Ae b (Ah _ _) as9;have h:=Aa c 0;have x1:=Aa c 1;have x2:=Aa c 2;have x3:=Aa c 3;simp at h x1 x2 x3;have g:=a.size;replace⟨a,b,c⟩:=H3 a b c;cases d:whole.right
 .replace d:=Hh d;go_wp2;go_ret;exact .inl ⟨d.out,rfl,a.out⟩
 .replace d:=Hh d;go_wp2;go_ret;refine .inr ⟨d.out,f.heap.size+1,f.heap.size,rfl,⟨?_,⟨as9,ad9,(⟨0,whole⟩:St).cells.toArray,?_,rfl,rfl⟩,ao9⟩,ao9,ao9,?_⟩
  .exact A6 _ _ as9
  .exact Aj _ (Ah _ _)
  .exact (a.alloc g _).alloc (by simp;omega) _
