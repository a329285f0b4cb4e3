/- Parts of a proof. No condition. -/
import Derived.Test.YtimlcnhcjndijaaGreatDoorF02
import Derived.Deep.RegionHeld3
import Derived.Deep.AppendLies
import Derived.Deep.RegionLawGrows
import Derived.Lib.SmallJoins
set_option linter.all false
set_option maxRecDepth 100000
set_option maxHeartbeats 1600000
namespace Go.Proofs.YtimlcnhcjndijaaGreatDoor
open Go renaming World->WD,Value->VL,Calls->CS
open Go.RowKit renaming Below->BW
open Go.Proofs.Tryz
namespace Pl
open Go.RowKit
variable{fr t_o:Int}{M l:List St}{b c cap k m n p:Nat}{P:Program}{V whole:V4}{w w':WD}
def Xc:(prog.info? 398).map (fun i=>(i.zero,i.size,i.bytes))=some (some (.agg #[.int .i64 0,.int .i64 0,.int .i64 0,.int .i64 0,.int .i64 0]),5,40):=by kernel_rfl
structure Mod (S:Nat->Prop) (w w':WD):Prop where
 os:w'.os=w.os
 tape:w'.tape=w.tape
 output:w'.output=w.output
 size:w.heap.size<=w'.heap.size
 block:∀ k,k<w.heap.size->¬ S k->w'.heap[k]?=w.heap[k]?
def Kl (l:List St) (k:Nat) (t:Int):List St:=l.take (k+1)++⟨t,(nth l k).f⟩ :: l.drop (k+1)
def Afv (pb sb cap:Nat) (whole:V4) (l:List St) (t:Int) (w:WD) (e:Ending) (w':WD):Prop:=
 ∃ (n k sb' cap':Nat) (l':List St),e=.returned (.int .i64 n)/\Kk l t k/\(((nth l k).t=t/\l'=l/\n=k/\sb'=sb/\cap'=cap)\/((nth l k).t≠t/\l'=Kl l k t/\n=k+1/\w.heap.size<=sb')) /\
  Ci w' pb sb' cap' whole l'/\Mod (·=pb) w w'
def Ap9 (w:WD) (B:Nat) (s:St) (a:B<=w.heap.size):(w.alloc (.cells s.cells.toArray 398)).ownsRow B 398 5 (.slice (some ⟨w.heap.size,0,none⟩) 1 1) 1 s.cells:=
 ⟨rfl,.inr ⟨w.heap.size,1,s.cells.toArray,rfl,a,heap_alloc_new w _,Nat.le_refl _,by decide,rfl,rfl⟩⟩
def Row.tail  {a cap:Nat}  (h:Row w a cap l) (n:Nat) (k:n<=l.length):∀ (j:Nat) (u:VL),(Bg (l.drop n))[j]?=some u->w.cell? ((⟨a,n*5,none⟩:Addr).add j)=some u:=by
 intro j u d;have i:=(Ao.1 d).1;rw [Oa,G2] at i
 have e:(⟨a,n*5,none⟩:Addr).add j=⟨a,n*5+j,none⟩:=by unfold Addr.add;split<;>simp_all
 have c:Bg l=Bg (l.take n)++Bg (l.drop n):=by rw [<- Aal,Or]
 obtain ⟨b,g,o,m⟩:=h.ar;rw [e,Aa g]
 have:(Bg l)[n*5+j]?=b[n*5+j]?:=by rw [<- m,Ls,Ad (by omega)];simp
 rw [<- this,c,Gc (by rw [Oa,E8];omega),Oa,E8];have f:n*5+j-min n l.length*5=j:=by rw [Ly k];omega
 rw [f];exact d
def Row.front  {a cap:Nat}  (h:Row w a cap l) (n:Nat) (k:n<=l.length):∀ (j:Nat) (u:VL),(Bg (l.take n))[j]?=some u->w.cell? ((⟨a,0,none⟩:Addr).add j)=some u:=by
 intro j u d;have g:=(Ao.1 d).1;rw [Oa,E8] at g
 have e:(⟨a,0,none⟩:Addr).add j=⟨a,j,none⟩:=by unfold Addr.add;split<;>simp_all
 have c:Bg l=Bg (l.take n)++Bg (l.drop n):=by rw [<- Aal,Or]
 obtain ⟨b,f,m,i⟩:=h.ar;rw [e,Aa f]
 have:(Bg l)[j]?=b[j]?:=by rw [<- i,Ls,Ad (by omega)];simp
 rw [<- this,c,E5 (by rw [Oa,E8];omega)];exact d
def Afw (l:List St):∀ u∈Bg l,u.oneCell'=true:=by
 intro u b;simp only [Bg,List.mem_flatMap] at b;obtain ⟨s,_,a⟩:=b;simp [St.cells] at a
 rcases a with rfl | rfl | rfl | rfl | rfl<;>rfl
def Aqa  {r:Array Oper} {o:Oper} {a:Act}  {K:Act->WD->Prop} {Q:Exit->Act->WD->Prop} {E:Prop} (am:o.guard=none) (s x:Operand) (t:TypeId)
  (ho:o.op=.call { callee:=.builtin .append,args:=#[s,x],argTypes:=#[t,t] })
  (base:Nat) (e:TypeId) (i:TypeInfo) (z:VL) (size d:Nat) (ht:P.underlying t=some (.slice e)) (hi:P.info? e=some i) (hz:i.zero=some z)
  (p:i.size=size) (al:i.bytes=d) (ao:z.cells.size=size) (an:0<size)
  (v:VL) (n:Nat) (xs:List VL) (hs:a.eval s=v) (q:w.ownsRow base e size v n xs)
  (y:Addr) (m c:Nat) (b:List VL) (hx:a.eval x=.slice (some y) m c) (hl:b.length=m*size) (l:∀ j u,b[j]?=some u->w.cell? (y.add j)=some u) (h1:∀ u∈b,u.oneCell'=true)
  (hn:0<n) (ac:n+m<=maxLen) (f:(n+m)*d<=140737488355328) (k:base<=w.heap.size)
  (h:∀ g cap w',w'.ownsRow base e size (.slice (some ⟨g,0,none⟩) (n+m) cap) (n+m) (xs++b)->w.grownBy w' v.ownBlock->K (a.put o.dst (.slice (some ⟨g,0,none⟩) (n+m) cap)) w') :
  if Region.wanted o (yielded r a.tmps)=true then Oper.wp P o a w K Q else E:=by
 have hw:Region.wanted o (yielded r a.tmps)=true:=by simp [Region.wanted,am]
 rw [Ad hw]
 exact wp_append_own w s x t ho base e i z size d ht hi hz p al ao an v n xs hs q y m c b hx hl l h1 ac f k fun v' w' h2 h3 _=>by
  obtain ⟨g,cap,rfl⟩:=Joins.ownsRow_form h2 (by omega);exact h g cap w' h2 h3
def Aam (l:List St) (k:Nat) (t:Int) (a:k<l.length):(Kl l k t).length=l.length+1:=by
 simp [Kl];omega
def Aqb (l:List St) (k:Nat) (t:Int):Bg (Kl l k t)=Bg (l.take (k+1))++((⟨t,(nth l k).f⟩:St).cells++Bg (l.drop (k+1))):=by
 simp [Kl,Bg]
def Row.rp  {base g cap n:Nat}  {xs:List VL} (h:w.ownsRow base 398 5 (.slice (some ⟨g,0,none⟩) n cap) n xs) (i:n=l.length) (o:xs=Bg l):Row w g cap l/\base<=g:=by
 obtain ⟨_,h | ⟨p,b,a,m,c,e,d,f,j,k⟩⟩:=h
 .cases h.1
 .cases m;subst i;refine ⟨⟨d,?_,a,e,j,k.trans o⟩,c⟩;simpa only [maxLen] using f
def Mod.af {S:Nat->Prop}  (h:BW w.heap.size w w'):Mod S w w':=⟨h.os,h.tape,h.output,h.size,fun k a _=>h.block k a⟩
def Mod.refl (S:Nat->Prop) (w:WD):Mod S w w:=⟨rfl,rfl,rfl,Nat.le_refl _,fun _ _ _=>rfl⟩
def Mod.trans {S:Nat->Prop} {w w1 e:WD} (h:Mod S w w1) (a:Mod (fun k=>S k\/w.heap.size<=k) w1 e):Mod S w e:=
 ⟨a.os.trans h.os,a.tape.trans h.tape,a.output.trans h.output,A5 h.size a.size,fun k d b=>(a.block k (Bx d h.size) (fun c=>by rcases c with c | c;exact b c;omega)).trans (h.block k d b)⟩
def Mod.mono {S S':Nat->Prop}  (h:Mod S w w') (d:∀ k,k<w.heap.size->S k->S' k):Mod S' w w':=⟨h.os,h.tape,h.output,h.size,fun k a b=>h.block k a fun c=>b (d k a c)⟩
def Mod.setCell {S:Nat->Prop} (w:WD) (b o:Nat) (v:VL) (a:S b):Mod S w (w.setCell ⟨b,o,none⟩ v):=
 ⟨rfl,rfl,rfl,by simp [World.setCell],fun k _ c=>Cm _ _ _ _ (fun e=>c (by simpa [e] using a))⟩
def Mod.grown {S:Nat->Prop}  {row:Option Nat} (h:w.grownBy w' row) (c:∀ k,row=some k->S k):Mod S w w':=
 ⟨h.os,h.tape,h.output,h.size,fun k b a=>h.block k b fun e=>a (c k e.symm)⟩
def Mod.alloc (S:Nat->Prop) (w:WD) (o:Obj):Mod S w (w.alloc o):=Mod.af Bn
def Mod.drew {S:Nat->Prop}  (h:Mod S w w'):Mod S w w'.drew:=⟨h.os,h.tape,h.output,h.size,h.block⟩
def Aqc {h v cap:Nat}   {t:Int} {w d r s:WD}  {X:Obj} {c1 c2:Nat}
  (j:BW w.heap.size w d) (_hpb:h<w.heap.size) (n:Ci d h v cap whole l) (q:Kk l t k) (ht:(nth l k).t≠t) (hm:m=l.length-(k+1))
  (a:(d.alloc X).drew.grownBy r (Value.slice (some ⟨d.heap.size,0,none⟩) c1 c2).ownBlock) (b:r.grownBy s none)
  (i:s.ownsRow r.heap.size 398 5 (.slice (some ⟨p,0,none⟩) (k+1+(1+m)) c) (k+1+(1+m)) (Bg (l.take (k+1))++((⟨t,(nth l k).f⟩:St).cells++Bg (l.drop (k+1)))))
  {e:Ending} (he:e=.returned (.int .i64 ((k:Int)+1))) :
  Afv h v cap whole l t w e (s.setCell ⟨h,4,none⟩ (.slice (some ⟨p,0,none⟩) (k+1+(1+m)) c)):=by
 have u:=q.1;have g:k+1+(1+m)=(Kl l k t).length:=by rw [Aam l k t u];omega
 obtain ⟨x,hg⟩:=Row.rp i g (Aqb l k t).symm;have o:=Ab n.head;have s1:d.heap.size<(d.alloc X).drew.heap.size:=by simp
 have s2:=a.size;have s3:=j.size;have y:=(a.block h (by omega) (by simp [Value.ownBlock];omega)).trans (Gz d X h o);have z:=b.block h (by omega) (by simp);refine ⟨k+1,k,p,c,Kl l k t,by rw [he];simp,q,.inr ⟨ht,rfl,rfl,by omega⟩,⟨?_,?_,by omega⟩,?_⟩
 .rw [Am ((z.trans y).trans n.head)];simp [g]
 .exact x.of_block (Cm _ _ _ _ (show p≠h by omega))
 .refine Mod.trans (w1:=d) (Mod.af j) ?_;refine Mod.trans (w1:=s) ?_ (Mod.setCell _ _ _ _ (.inl (.inl rfl)));refine Mod.trans (w1:=r) ?_ (Mod.grown b (by simp));refine Mod.trans (w1:=(d.alloc X).drew) (Mod.drew (Mod.alloc _ _ _)) (Mod.grown a ?_);intro k q;simp [Value.ownBlock] at q;omega
def Aqd (q d cap:Nat) (whole:V4) (l:List St) (t:Int) (w:WD) (z:Ci w q d cap whole l) (hl:Cc l) (h3:0<=t) (h4:t<=1099511627776) :
  CS prog 315 #[.pointer (some ⟨q,0,none⟩),.int .i64 t] w (Afv q d cap whole l t w):=by
 have aL:=hl.len;replace ⟨z,hl⟩:=H2 z hl;obtain ⟨i0,y,av,am,aA⟩:=Cb Xc;go_enter func315,ntmps315;go_wp2_with fail;refine (Xb q d cap whole l t w z.out hl.out h3 h4).mono ?_;rintro e o ⟨k,rfl,hk,r⟩;have c:Ci o q d cap whole l:=⟨Ae r z.head (Ab z.head),z.row.below r z.row.lt,z.ne⟩;have aD:=hk.1;have aK:(k:Int)<l.length:=by omega
 replace ⟨hk,r⟩:=H2 hk r;have p4:=Aa c.head 4;have pf:=Af c.head 4;simp at p4;obtain ⟨c0,c1,c2,c3,c4⟩:=c.row.cells aD;have aJ:=c.row.le;have aC:=c.row.max;have lp:=Ab c.head;have ls:=c.row.lt;replace c:=Hh c;by_cases ht:(nth l k).t=t
 .have aH:((nth l k).t == t)=true:=by simpa using ht
  replace ht:=Hh ht;go_wp2;go_ret;exact ⟨k,k,d,cap,l,rfl,hk.out,.inl ⟨ht.out,rfl,rfl,rfl,rfl⟩,c.out,Mod.af r.out⟩
 .have aH:((nth l k).t == t)=false:=by simpa using ht
  replace ht:=Hh ht;go_wp2_with fail;have aF:=Apv (i:=i0) Lu y d l.length cap (k+1) ((k:Int)+1) (by omega) (by omega);obtain ⟨ta,m,mc,aG,ac,hm⟩:∃ ta m mc,(∀ w,(Instr.slice 361 (.slice (some ⟨d,0,none⟩) l.length cap) (some (.int .i64 ((k:Int)+1))) none none).run prog w=.ok (.slice (some ta) m mc) w)/\(k+1<cap->ta=⟨d,(k+1)*i0.size,none⟩)/\Hid (m=l.length-(k+1)):=by obtain ⟨ta,h1,h2⟩:=Ro (i:=i0) Lu y d l.length cap (k+1) ((k:Int)+1) (by omega) (by omega);exact ⟨ta,_,_,h1,h2,rfl⟩
  rw [am] at ac;replace ac:=Hh ac;have aE:=hm.out;have q1:=Hh (show (Bg (l.drop (k+1))).length=m*5 by rw [Oa,G2,hm.out])
  have q2:Hid (∀ j u,(Bg (l.drop (k+1)))[j]?=some u->((o.alloc (.cells (⟨t,(nth l k).f⟩:St).cells.toArray 398)).drew).cell? (ta.add j)=some u):=by
   have h:=c.row.tail (k+1) (by omega);intro j u hu;have hj:=(Ao.1 hu).1;rw [Oa,G2] at hj;have h2:=h j u hu;rw [ac (by omega)];refine (Bp (w:=o) ?_).trans h2
   have e:((⟨d,(k+1)*5,none⟩:Addr).add j).block=d:=by unfold Addr.add;split<;>rfl
   rw [e];exact Gz o _ d ls
  have q3:=Hh (show 1+m<=maxLen by simp only [maxLen];omega);have q4:=Hh (show (1+m)*40<=140737488355328 by omega);have q6:=Hh (show (Bg (l.take (k+1))).length=(k+1)*5 by rw [Oa,E8,Ly (by omega)]);have q7:=Hh (c.row.front (k+1) (by omega));clear aE;have ad:=trivial;have s:q<(o.alloc (.cells (⟨t,(nth l k).f⟩:St).cells.toArray 398)).drew.heap.size:=by simp;omega
  have an:d<(o.alloc (.cells (⟨t,(nth l k).f⟩:St).cells.toArray 398)).drew.heap.size:=by simp;omega
  have x:some q≠(Value.slice (some ⟨o.heap.size,0,none⟩) 1 1).ownBlock:=by simp [Value.ownBlock];omega
  have ao:some d≠(Value.slice (some ⟨o.heap.size,0,none⟩) 1 1).ownBlock:=by simp [Value.ownBlock];omega
  replace ⟨s,an,x,ao⟩:=H4 s an x ao;go_region_law
    (first
      | (have _t:=ad;refine Aqa (by rfl) _ _ _ (by rfl) (o.heap.size) 398 i0 _ 5 40 Lu y av am aA rfl (by omega) _ 1 ((⟨t,(nth l k).f⟩:St).cells) (by rfl) ((Ap9 o o.heap.size ⟨t,(nth l k).f⟩ Ln).drew)
          ta m mc (Bg (l.drop (k+1))) (by rfl) q1.out q2.out (Afw _) (by omega) q3.out q4.out (by simp) ?_
         intro g ap w3 p a;have aM:w3.cell? ⟨q,4,none⟩=some (.slice (some ⟨d,0,none⟩) l.length cap):=by rw [a.cell_far _ s.out x.out,Bp (w:=o) (Gz o _ q lp)];exact p4
         clear ad)
      | (have _t:=p;have hg:=a.size
         have aB:q<w3.heap.size:=by have:=s.out;simp at this hg;omega
         have s1:∀ b,some (⟨d,0,none⟩:Addr)=some b->∀ j u,(Bg (l.take (k+1)))[j]?=some u->w3.cell? (b.add j)=some u:=by
           intro b hb j u hu;cases hb;have h1:=q7 j u hu
           have al:((⟨d,0,none⟩:Addr).add j).block=d:=by unfold Addr.add;split<;>rfl
           rw [a.cell_far _ (by rw [al];exact an.out) (by rw [al];exact ao.out)];rw [Bp (w:=o) (by rw [al];exact Gz o _ d ls)];exact h1
         have s2:∀ u∈(⟨t,(nth l k).f⟩:St).cells++Bg (l.drop (k+1)),u.oneCell'=true:=by
           intro u hu;rcases Dh.1 hu with h | h
           · simp [St.cells] at h
             rcases h with rfl | rfl | rfl | rfl | rfl<;>rfl
           · exact Afw _ u h
         have s3:k+1<k+1+(1+m):=(by omega);have s4:k+1+(1+m)<=maxLen:=(by have:=hm.out;simp only [maxLen];omega);have s5:(k+1+(1+m))*40<=140737488355328:=(by have:=hm.out;omega);replace ⟨s1,s2⟩:=H2 s1 s2;refine step_append_grows (by rfl) _ _ _ (by rfl) 398 i0 _ 5 40 Lu y av am aA rfl (by omega) (some ⟨d,0,none⟩) (k+1) (k+1) (Bg (l.take (k+1))) (by rfl) (by simp) q6.out s1.out ⟨g,0,none⟩ (1+m) ap _ (by rfl) p.1 (p.cells rfl) s2.out s3 s4 s5 ?_;intro v3 w4 v n;obtain ⟨g3,aI,rfl⟩:=Joins.ownsRow_form v (by omega);have aO:w4.frozen? ⟨q,4,none⟩=false:=(by rw [n.frozen_far _ aB (by simp),a.frozen_far _ s.out x.out,Oq (w:=o) (Gz o _ q lp)];exact pf);have aN:w4.cell? ⟨q,4,none⟩=some (.slice (some ⟨d,0,none⟩) l.length cap):=by rw [n.cell_far _ aB (by simp),a.cell_far _ s.out x.out,Bp (w:=o) (Gz o _ q lp)];exact p4
         clear s4 s5 s3))
  all_goals
   clear aF aG;go_wp2;go_ret;exact Aqc r.out (Ab z.head) c.out hk.out ht.out hm.out a n v rfl
def Aqk {z:Array VL}  (h1:∀ v∈z,v.oneCell'=true) (c:0<z.size):∀ v∈(Builtin.zeroCells z n).toList,v.oneCell'=true:=by
 intro v b;simp [Builtin.zeroCells] at b;obtain ⟨a,d,rfl⟩:=b;apply h1;have:a % z.size<z.size:=Nat.mod_lt _ c;rw [getElem!_pos z _ this];exact Array.getElem_mem _
def Aql    (h:Row w c cap M) (i:Nat) (x:i<=M.length) {ta:Addr} {m mc:Nat} (s:i<M.length->ta=⟨c,i*5,none⟩) (hm:m=M.length-i) :
  ∃ w',(∀ t,(Builtin.clear_ #[361] t #[.slice (some ta) m mc]).run prog w=.ok (.tuple #[]) w')/\Row w' c cap (M.take i)/\Mod (·=c) w w':=by
 obtain ⟨h1,u,a,o,hs,y⟩:=h
 have p:Bg (M.take i)=(Bg M).take (i*5):=by
  have:Bg M=Bg (M.take i)++Bg (M.drop i):=by rw [<- Aal,Or]
  rw [show (Bg M).take (i*5)=(Bg (M.take i)++Bg (M.drop i)).take (i*5) by rw [<- this]];have e1:i*5=(Bg (M.take i)).length:=by rw [Oa,E8,Ly x]
  rw [e1,List.take_left]
 by_cases q:i<M.length
 .obtain ⟨g,rfl⟩:∃ g,m=g+1:=⟨m-1,by omega⟩;have f:=s q;obtain ⟨Z,l⟩:=Ex ((Builtin.zeroCells #[.int .i64 0,.int .i64 0,.int .i64 0,.int .i64 0,.int .i64 0] (g+1)).toList);have e:∀ v∈Z,v.oneCell'=true:=by rw [l];exact Aqk (z:=#[.int .i64 0,.int .i64 0,.int .i64 0,.int .i64 0,.int .i64 0]) (n:=g+1) (by intro v hv;simp at hv;subst hv;rfl) (by decide)
  have b:Z.length=(g+1)*5:=by rw [l];simp [Builtin.zeroCells]
  have d:=run_storeCells_at (P:=prog) c (i*5) 398 Z 0 a w o (by rw [b];omega) e;simp only [Io] at d;obtain ⟨C,j⟩:=Ex ((a.toList.take (i*5)++Z++a.toList.drop (i*5+Z.length)).toArray);rw [<- j] at d;refine ⟨w.setRow c C,fun t=>?_,⟨?_,u,C,My w c a C 398 (0,0) o,?_,?_⟩,⟨rfl,rfl,rfl,by simp [World.setRow],fun k _ hk=>Te w c k C hk⟩⟩
  .subst f;simp [Builtin.clear_,Mu Lu,Value.cells,<- l,d]
  .simp;omega
  .rw [j];simp only [Ve,Cn,b];simp;omega
  .rw [j];simp only [E8,Ly x];rw [Ky,List.take_append_of_le_length (by simp;omega),Vk,Nat.min_self,p,<- y,Vk];congr 1;omega
 .have:i=M.length:=by omega
  subst this;have r:m=0:=by omega
  subst r;refine ⟨w,fun t=>?_,⟨by simpa using h1,u,a,o,hs,by simpa using y⟩,Mod.refl _ _⟩;simp [Builtin.clear_,Mu Lu]
def Afx (s u:St) (w:WD) :
  CS prog 317 #[s.val,u.val] w fun e w'=>e=.returned (.bool (decide (s.f=u.f)))/\BW w.heap.size w w':=by
 have a:=Aqj s.f u.f;go_enter func317,ntmps317;go_wp2;go_ret;exact ⟨rfl,Bn.alloc (by simp) _⟩
def Aqm  {t e:TypeId} {i:TypeInfo} (d:P.underlying t=some (.slice e)) (f:P.info? e=some i) (b a cap n:Nat) (x:Int) (j:x=n) (g:n<=cap) (w:WD) :
  (Instr.slice t (.slice (some ⟨b,0,none⟩) a cap) none (some (.int .i64 x)) none).run P w=.ok (.slice (some ⟨b,0,none⟩) n cap) w:=by
 subst j
 have h1:∀ (y:Nat) (_:n<=y) c,(Instr.sliceBound (.int .i64 (n:Int)) y c).run P w=.ok n w:=fun y h c=>by
  simp [Instr.sliceBound,asIntOf,h]
 simp [Instr.slice,Instr.sliceBounds,Mu d,h1 cap g,sizeOf,typeInfo,f,Addr.add]
def Row.free  {a cap:Nat}  (h:Row w a cap l) (o:Nat):w.frozen? ⟨a,o,none⟩=false:=by
 obtain ⟨_,_,b,h1,_⟩:=h;exact Af h1 o
def Ib {B:Nat}  (h:BW B w.drew w'):BW B w w':=⟨h.os,h.tape,h.output,h.size,h.block⟩
def Xe (sb cap:Nat) (l:List St) (w:WD) (e:Ending) (w':WD):Prop:=
 e=.returned (.slice (some ⟨sb,0,none⟩) (B6 l).length cap)/\Row w' sb cap (B6 l)/\Mod (·=sb) w w'
def Aqn (l:List St):(B6 l).length<=l.length:=by
 have a:∀ (l:List St) p,(Fy p l).length<=l.length:=by
  intro l
  induction l with
  | nil=>intro p;simp [Fy]
  | cons s r ih=>
   intro p;simp only [Fy];split;· have:=ih s.f;simp;omega
   .have:=ih s.f;simp;omega
 cases l with
 | nil=>simp [B6]
 | cons s r=>have:=a r s.f;simp [B6];omega
def Afy (n cap:Nat) (l:List St) (w:WD) (hr:Row w n cap l) (aU:l.length<=2199023255552) :
  CS prog 316 #[.slice (some ⟨n,0,none⟩) l.length cap,.func (.func 317) #[] #[]] w (Xe n cap l w):=by
 obtain ⟨i0,aF,a3,aN,a4⟩:=Cb Xc;have aT:=hr.le;have aR:=hr.lt;replace hr:=Hh hr;go_enter func316,ntmps316;by_cases h2:l.length<2
 .have aO:(l.length:Int)<2:=by omega
  go_wp2;go_ret
  have e:B6 l=l:=by
   have:=Aap l l.length Ln (fun i h0 h1=>by omega)
   rwa [C8 Ln] at this
  unfold Xe;rw [e];exact ⟨rfl,hr.out,Mod.refl _ _⟩
 .have aO:¬ (l.length:Int)<2:=by omega
  go_wp2;go_loopw [5,6,7] (fun i _ _ wr=>∃ a:Nat,a+1<=l.length/\i=.int .i64 ((a:Int)+1)/\BW w.heap.size w wr/\Hid (∀ k,0<k->k<a+1->(nth l k).f≠(nth l (k-1)).f)) (fun i _ _ _=>l.length-(intOf i).toNat)
  case atStart=>exact ⟨0,by omega,rfl,Below.refl _ _,by intro k h1 h2;omega⟩
  case round=>
   obtain ⟨a,ha,rfl,hB,hk⟩:=hrel;have u:=hr.below hB aR;by_cases aY:a+1<l.length
   .have aJ:(a:Int)+1<l.length:=(by omega);obtain ⟨c0,c1,c2,c3,c4⟩:=u.cells (i:=a) (by omega);obtain ⟨d0,d1,d2,d3,d4⟩:=u.cells (i:=a+1) (by omega);have a2:=hB.size;have aK:n<wr.heap.size:=(by omega);replace ⟨hB,u⟩:=H2 hB u;have e1:IntKind.i64.wrap ((a:Int)+1-1)=(a:Int):=(by rw [E9 _ (by omega)];omega);have e6:IntKind.i64.wrap (a:Int)=(a:Int):=(by rw [E9 _ (by omega)]);have e2:(0:Int)<=(a:Int)+1:=(by omega);have e3:((a:Int)+1).toNat=a+1:=(by omega);have e4:(a:Int)<l.length:=(by omega);have e5:(0:Int)<=(a:Int):=(by omega);go_wp2_with fail
    go_region_held3 (fun w'=>w'.cell? ⟨n,a*5,none⟩=some (.int .i64 (nth l a).t)/\w'.cell? ⟨n,a*5+1,none⟩=some (.int .i64 (nth l a).f.a)/\w'.cell? ⟨n,a*5+2,none⟩=some (.int .i64 (nth l a).f.b)/\w'.cell? ⟨n,a*5+3,none⟩=some (.int .i64 (nth l a).f.c)/\w'.cell? ⟨n,a*5+4,none⟩=some (.int .i64 (nth l a).f.d) /\
     w'.cell? ⟨n,(a+1)*5,none⟩=some (.int .i64 (nth l (a+1)).t)/\w'.cell? ⟨n,(a+1)*5+1,none⟩=some (.int .i64 (nth l (a+1)).f.a)/\w'.cell? ⟨n,(a+1)*5+2,none⟩=some (.int .i64 (nth l (a+1)).f.b)/\w'.cell? ⟨n,(a+1)*5+3,none⟩=some (.int .i64 (nth l (a+1)).f.c)/\w'.cell? ⟨n,(a+1)*5+4,none⟩=some (.int .i64 (nth l (a+1)).f.d))
     (first
       | go_keep
       | (go_split_ands
          refine ⟨?_,?_,?_,?_,?_,?_,?_,?_,?_,?_⟩<;>(rw [Ag r (by simpa using aK)];assumption)))
     (first | (go_at_call 317;refine (Afx (nth l (a+1)) (nth l a) _).mono ?_;rintro e w2 ⟨rfl,r⟩))
    clear c0 c1 c2 c3 c4 d0 d1 d2 d3 d4 e1 e2 e3 e6;by_cases hf:(nth l (a+1)).f=(nth l a).f
    .have hd:decide ((nth l (a+1)).f=(nth l a).f)=true:=(by simpa using hf);rw [hd];clear hd;replace hf:=Hh hf;obtain ⟨ta,aL,aS⟩:=Ro (i:=i0) Lu aF n l.length cap (a+1) ((a:Int)+1) (by omega) (by omega);obtain rfl:=aS (by omega);rw [aN] at aL;obtain ⟨m,hm⟩:=Ex (l.length-(a+1));rw [<- hm] at aL;have aZ:m<=2199023255552:=(by omega);replace hm:=Hh hm;have ac:=u.below (Ib r) (by simpa using aK);have y:Mod (·=n) w w2:=(Mod.af hB.out).trans (Mod.af (Ib r));replace ⟨ac,y,r⟩:=H3 ac y r;go_wp2;go_loopw [5,7] (fun i j wr=>∃ (d b:Nat) (M:List St),d+1<=m/\j=.int .i64 ((d:Int)+1)/\i=.int .i64 b/\Hid (M.length=l.length)/\b<=a+1+d/\Hid (b=(B6 (l.take (a+1+(d+1)))).length)/\Hid (M.take b=B6 (l.take (a+1+(d+1))))/\Hid (∀ k,a+1+d<=k->nth M k=nth l k)/\Hid (Row wr n cap M)/\Hid (Mod (·=n) w wr)) (fun _ j _=>m-(intOf j).toNat)
     case atStart=>
      have hc:=Aap l (a+1) (by omega) hk.out;have aH:B6 (l.take (a+1+1))=l.take (a+1):=(by rw [Aao l (a+1) (by omega) (by omega),hc,Ad (by rw [Nat.add_sub_cancel];exact hf.out),Oz]);refine ⟨0,a+1,l,by have:=hm.out;omega,rfl,by simp,rfl,by omega,?_,?_,fun k _=>rfl,ac.out,y.out⟩
      .show a+1=(B6 (l.take (a+1+(0+1)))).length;simp only [Da];rw [aH];simp;omega
      .show l.take (a+1)=B6 (l.take (a+1+(0+1)));simp only [Da];rw [aH]
     case round=>
      obtain ⟨d,b,M,aX,rfl,rfl,av,aV,am,aB,aA,ap,aE⟩:=hrel;have ao:=hm.out;have al:=av.out;by_cases hd:d+1<m
      .have aQ:(d:Int)+1<m:=(by omega);have aD:=ap.lt;obtain ⟨c0,c1,c2,c3,c4⟩:=ap.cells (i:=a+1+d) (by omega);obtain ⟨d0,d1,d2,d3,d4⟩:=ap.cells (i:=a+1+(d+1)) (by omega);simp only [Lz (a+1) d 5,Lz (a+1) (d+1) 5] at c0 c1 c2 c3 c4 d0 d1 d2 d3 d4;have e1:IntKind.i64.wrap ((d:Int)+1-1)=(d:Int):=(by rw [E9 _ (by omega)];omega);have e6:IntKind.i64.wrap (d:Int)=(d:Int):=(by rw [E9 _ (by omega)]);have e2:(0:Int)<=(d:Int)+1:=(by omega);have e3:((d:Int)+1).toNat=d+1:=(by omega);have e4:(d:Int)<m:=(by omega);have e5:(0:Int)<=(d:Int):=(by omega);clear ao al;go_wp2_with fail;go_region_held3 (fun w'=>w'.cell? ⟨n,(a+1)*5+d*5,none⟩=some (.int .i64 (nth M (a+1+d)).t)/\w'.cell? ⟨n,(a+1)*5+d*5+1,none⟩=some (.int .i64 (nth M (a+1+d)).f.a)/\w'.cell? ⟨n,(a+1)*5+d*5+2,none⟩=some (.int .i64 (nth M (a+1+d)).f.b)/\w'.cell? ⟨n,(a+1)*5+d*5+3,none⟩=some (.int .i64 (nth M (a+1+d)).f.c)/\w'.cell? ⟨n,(a+1)*5+d*5+4,none⟩=some (.int .i64 (nth M (a+1+d)).f.d)/\w'.cell? ⟨n,(a+1)*5+(d+1)*5,none⟩=some (.int .i64 (nth M (a+1+(d+1))).t)/\w'.cell? ⟨n,(a+1)*5+(d+1)*5+1,none⟩=some (.int .i64 (nth M (a+1+(d+1))).f.a)/\w'.cell? ⟨n,(a+1)*5+(d+1)*5+2,none⟩=some (.int .i64 (nth M (a+1+(d+1))).f.b)/\w'.cell? ⟨n,(a+1)*5+(d+1)*5+3,none⟩=some (.int .i64 (nth M (a+1+(d+1))).f.c)/\w'.cell? ⟨n,(a+1)*5+(d+1)*5+4,none⟩=some (.int .i64 (nth M (a+1+(d+1))).f.d))
        (first
          | go_keep
          | (go_split_ands
             refine ⟨?_,?_,?_,?_,?_,?_,?_,?_,?_,?_⟩<;>(rw [Ag v (by simpa using aD)];assumption)))
        (first | (go_at_call 317;refine (Afx (nth M (a+1+(d+1))) (nth M (a+1+d)) _).mono ?_;rintro e w3 ⟨rfl,v⟩))
       clear c0 c1 c2 c3 c4 d0 d1 d2 d3 d4 e1 e2 e3 e6;have g:=ap.below (Ib v) (by simpa using aD);have o:=aE.trans (Mod.af (Ib v));have hx:nth M (a+1+(d+1))=nth l (a+1+(d+1)):=aA _ (by omega);have hy:nth M (a+1+d)=nth l (a+1+d):=aA _ (by omega);replace ⟨hx,hy⟩:=H2 hx hy;have q:=Aao l (a+1+(d+1)) (by omega) (by have:=hm.out;omega);replace q:=Hh q;by_cases s:(nth M (a+1+(d+1))).f=(nth M (a+1+d)).f
       .have an:decide ((nth M (a+1+(d+1))).f=(nth M (a+1+d)).f)=true:=(by simpa using s);simp only [an,Bool.not_true];clear an;have p:=q.out;rw [Ad (by rw [<- hx.out,show a+1+(d+1)-1=a+1+d by omega,<- hy.out];exact s),Oz] at p;replace ⟨p,s,v,g,o⟩:=H5 p s v g o;go_wp2;go_roundw
        case rel=>
         refine ⟨d+1,b,M,by omega,by go_num,rfl,av,by omega,?_,?_,fun k hk=>aA.out k (by omega),g.out,o.out⟩
         .show b=(B6 (l.take (a+1+(d+1)+1))).length;rw [p.out];exact am.out
         .show _=B6 (l.take (a+1+(d+1)+1));rw [p.out];exact aB.out
        case measure=>simp [intOf];omega
       .have an:decide ((nth M (a+1+(d+1))).f=(nth M (a+1+d)).f)=false:=(by simpa using s);simp only [an,Bool.not_false];clear an;have p:=q.out;rw [Ac (by rw [<- hx.out,show a+1+(d+1)-1=a+1+d by omega,<- hy.out];exact s)] at p;replace ⟨p,s⟩:=H2 p s;have al:=av.out;have ao:=hm.out;obtain ⟨d0,d1,d2,d3,d4⟩:=g.cells (i:=a+1+(d+1)) (by omega);simp only [Lz (a+1) (d+1) 5] at d0 d1 d2 d3 d4;obtain ⟨c0,c1,c2,c3,c4⟩:=g.cells (i:=b) (by omega);have ff:=g.free;have e7:(b:Int)<l.length:=(by omega);clear al ao;replace ⟨v,g,o⟩:=H3 v g o;go_wp2;go_roundw
        case rel=>
         have al:=av.out;have ao:=hm.out;have aM:=g.l9 b (nth M (a+1+(d+1))) (by omega);refine ⟨d+1,b+1,M.set b (nth M (a+1+(d+1))),by omega,by go_num,by go_num,by show (M.set _ _).length=_;rw [Dm];exact al,by omega,?_,?_,?_,aM,?_⟩
         .show b+1=(B6 (l.take (a+1+(d+1)+1))).length;rw [p.out,Cn,<- am.out];rfl
         .show (M.set b _).take (b+1)=B6 (l.take (a+1+(d+1)+1));rw [p.out,<- aB.out,<- hx.out];rw [Tz _ b (by rw [Dm];omega),Aan _ _ _ _ (by omega),Ad rfl,List.take_set_of_le Ln]
         .intro k hk;rw [Aan _ _ _ _ (by omega),Ac (by omega)];exact aA.out k (by omega)
         .refine o.trans ?_;refine (((Mod.setCell _ _ _ _ (.inl rfl)).trans (Mod.setCell _ _ _ _ (.inl (.inl rfl)))).trans (Mod.setCell _ _ _ _ (.inl (.inl rfl)))).trans (Mod.setCell _ _ _ _ (.inl (.inl rfl))) |>.trans (Mod.setCell _ _ _ _ (.inl (.inl rfl)))
        case measure=>simp [intOf];omega
      .have aC:d+1=m:=(by omega);have aQ:¬ (d:Int)+1<m:=(by omega);have x:a+1+(d+1)=l.length:=(by omega);rw [x,C8 Ln] at am aB;have aP:b<=M.length:=(by have h1:=am.out;have h2:=Aqn l;omega);obtain ⟨tb,a0,aG⟩:=Ro (i:=i0) Lu aF n l.length cap b (b:Int) rfl (by omega);have a1:=Aqm (i:=i0) Lu aF n l.length cap b (b:Int) rfl (by omega);obtain ⟨w5,aW,ad,z⟩:=Aql ap.out b aP (ta:=tb) (m:=l.length-b) (mc:=cap-b) (fun h=>by rw [aG (by omega),aN]) (by omega);replace ⟨aG,ad,z,x,aC⟩:=H5 aG ad z x aC;clear ao al;go_wp2;go_ret
       have aI:Xe n cap l w (.returned (.slice (some ⟨n,0,none⟩) b cap)) w5:=by
        refine ⟨by rw [am.out],?_,aE.trans (z.mono fun k _ h=>.inl h)⟩;have:=ad.out
        rwa [aB.out] at this
       exact aI
    .have hd:decide ((nth l (a+1)).f=(nth l a).f)=false:=(by simpa using hf);rw [hd];clear hd;replace ⟨hf,r⟩:=H2 hf r;go_wp2;go_roundw
     case rel=>
      refine ⟨a+1,by omega,by go_num,hB.trans ((Ib r.out).mono (by simp;omega)),?_⟩;intro k h1 h2;by_cases e:k=a+1
      .subst e;exact hf.out
      .exact hk.out k h1 (by omega)
     case measure=>simp [intOf];omega
   .have aJ:¬ (a:Int)+1<l.length:=(by omega);replace ⟨hB,u⟩:=H2 hB u;go_wp2;go_ret
    have e:B6 l=l:=by
     have:=Aap l l.length Ln (fun i h0 h1=>hk.out i h0 (by omega))
     rwa [C8 Ln] at this
    unfold Xe;rw [e];exact ⟨rfl,u.out,Mod.af hB.out⟩
def Gq (g:V4->V4) (i e:Nat) (l:List St):List St:=l.take i++((l.take e).drop i).map (fun s=>⟨s.t,g s.f⟩)++l.drop e
def Afz (g:V4->V4) (i:Nat) (l:List St):Gq g i i l=l:=by
 have:(l.take i).drop i=[]:=by rw [List.drop_eq_nil_iff];simp;omega
 simp [Gq,this]
def Sa (g:V4->V4) (i e:Nat) (l:List St) (h:i<=e) (a:e<=l.length):(Gq g i e l).length=l.length:=by
 simp [Gq];omega
def Sb (g:V4->V4) (i e:Nat) (l:List St) (h:i<=e) (c:e<=l.length) (k:Nat) (a:k<l.length) :
  nth (Gq g i e l) k=if i<=k/\k<e then ⟨(nth l k).t,g (nth l k).f⟩ else nth l k:=by
 simp only [Gq,nth,Yl];by_cases h1:k<i
 .rw [Ky,E5 (by simp;omega),Ls,Ad h1,Ac (by omega)]
 .by_cases b:k<e
  .rw [Ky,Gc (by simp;omega),E5 (by simp;omega),Ad (by omega)];simp only [E8,Ly (show i<=l.length by omega),Bh,Ns,Ls];rw [Ad (by omega),show i+(k-i)=k by omega,A4 a];simp
  .rw [Gc (by simp;omega),Ac (by omega)];congr 1;simp only [Cn,E8,At,G2,Ns];congr 1;omega
def Aqo (l m:List St) (h:l.length=m.length) (a:∀ k,k<l.length->nth l k=nth m k):l=m:=by
 apply List.ext_getElem h;intro i h1 b;have:=a i h1;simpa [nth,h1,b] using this
def Af0 (g:V4->V4) (i e:Nat) (l:List St) (h:i<=e) (m:e<l.length):Gq g i (e+1) l=(Gq g i e l).set e ⟨(nth l e).t,g (nth l e).f⟩:=by
 have c:=Sa g i (e+1) l (by omega) (by omega);have j:=Sa g i e l h (by omega);refine Aqo _ _ (by simp [c,j]) fun k b=>?_;rw [c] at b;rw [Sb g i (e+1) l (by omega) (by omega) k b,Aan _ _ _ _ (by omega),Sb g i e l h (by omega) k b];by_cases a:k=e
 .subst a;simp [h]
 .by_cases d:i<=k/\k<e
  .rw [Ad (by omega),Ac a,Ad d]
  .rw [Ac (by omega),Ac a,Ac d]
def Qk (l:List St) (t:Int) (n:Nat) (l':List St):Prop:=
 ∃ k,Kk l t k/\(((nth l k).t=t/\l'=l/\n=k)\/((nth l k).t≠t/\l'=Kl l k t/\n=k+1))
def Af1 (l:List St) (k:Nat) (t:Int) (b:k<l.length) (j:Nat) (a:j<l.length+1) :
  nth (Kl l k t) j=if j<=k then nth l j else if j=k+1 then ⟨t,(nth l k).f⟩ else nth l (j-1):=by
 simp only [Kl];by_cases h1:j<=k
 .rw [Ad h1,Aqg _ _ _ (by simp;omega),Xd l (k+1) j (by omega)]
 .rw [Ac h1];obtain ⟨d,rfl⟩:∃ d,j=k+1+d:=⟨j-(k+1),by omega⟩;have e:nth (l.take (k+1)++⟨t,(nth l k).f⟩ :: l.drop (k+1)) (k+1+d)=nth (⟨t,(nth l k).f⟩ :: l.drop (k+1)) d:=by simp only [nth,Yl];rw [Gc (by simp;omega)];congr 2;simp;omega
  rw [e]
  cases d with
  | zero=>simp [nth]
  | succ d=>
   rw [Ac (by omega),show k+1+(d+1)-1=k+1+d by omega];simp [nth]
def Qk.facts {l d:List St} {t:Int}  (h:Qk l t n d) (c:Cc l) (ht:t<1099511627776) :
  Cc d/\n<d.length/\(nth d n).t=t/\l.length<=d.length/\(∀ j,j<l.length->(nth l j).t<t->j<n/\nth d j=nth l j)/\(∀ j,j<d.length->∃ i,i<l.length/\(nth d j).f=(nth l i).f):=by
 obtain ⟨k,hk,h⟩:=h;obtain ⟨r,k2,v⟩:=hk;rcases h with ⟨h1,rfl,rfl⟩ | ⟨h1,rfl,rfl⟩
 .refine ⟨c,r,h1,Nat.le_refl _,fun j b x=>⟨?_,rfl⟩,fun j b=>⟨j,b,rfl⟩⟩;apply Ii;intro y;by_cases e:j=n
  .subst e;omega
  .have:=c.az n j (by omega) b;omega
 .have a:=Aam l k t r;have g:=Af1 l k t r;have ac:(nth l k).t<t:=by omega
  refine ⟨⟨by omega,by rw [g 0 (by omega),Ad (by omega)];exact c.zero,?_,?_⟩,by omega,?_,by omega,?_,?_⟩
  .intro i j s b;rw [a] at b;rw [g i (by omega),g j (by omega)];by_cases m:i<=k
   .rw [Ad m]
    have z:(nth l i).t<=(nth l k).t:=by
     by_cases e:i=k
     .subst e;omega
     .have:=c.az i k (by omega) r;omega
    by_cases p:j<=k
    .rw [Ad p];exact c.az i j s (by omega)
    .rw [Ac p];by_cases q:j=k+1
     .rw [Ad q];show (nth l i).t<t;omega
     .rw [Ac q];exact c.az i (j-1) (by omega) (by omega)
   .rw [Ac m,Ac (show ¬ j<=k by omega),Ac (show ¬ j=k+1 by omega)];by_cases o:i=k+1
    .rw [Ad o];show t<_;exact v (j-1) (by omega) (by omega)
    .rw [Ac o];exact c.az (i-1) (j-1) (by omega) (by omega)
  .intro i u;rw [a] at u;rw [g i u];split
   .exact c.last i (by omega)
   .split
    .exact ht
    .exact c.last (i-1) (by omega)
  .rw [g (k+1) (by omega),Ac (by omega),Ad rfl]
  .intro j b x
   have:j<=k:=by apply Ii;intro y;have:=v j (by omega) b;omega
   exact ⟨by omega,by rw [g j (by omega),Ad this]⟩
  .intro j b;rw [a] at b;rw [g j b];split
   .exact ⟨j,by omega,rfl⟩
   .split
    .exact ⟨k,r,rfl⟩
    .exact ⟨j-1,by omega,rfl⟩
def Af2 (c f cap:Nat) (whole:V4) (l:List St) (t:Int) (w:WD) (m:Ci w c f cap whole l) (j:Cc l) (g:0<=t) (i:t<=1099511627776) :
  CS prog 315 #[.pointer (some ⟨c,0,none⟩),.int .i64 t] w fun e w'=>∃ (n b a:Nat) (d:List St),e=.returned (.int .i64 n)/\Qk l t n d/\Ci w' c b a whole d/\(b=f\/w.heap.size<=b)/\Mod (·=c) w w':=
 (Aqd c f cap whole l t w m j g i).mono fun _ _ ⟨n,k,b,a,d,he,hk,h,hp',hm⟩=>⟨n,b,a,d,he,⟨k,hk,by rcases h with h | h;exact .inl ⟨h.1,h.2.1,h.2.2.1⟩;exact .inr ⟨h.1,h.2.1,h.2.2.1⟩⟩,hp',by rcases h with h | h;exact .inl h.2.2.2.1;exact .inr h.2.2.2,hm⟩
def Ql (l:List St) (fr t_o:Int) (g:V4->V4) (l':List St):Prop:=
 ∃ i l1 e l2,Qk l fr i l1/\((t_o<1099511627776/\Qk l1 t_o e l2)\/(t_o=1099511627776/\l2=l1/\e=l1.length))/\l'=B6 (Gq g i e l2)
def Af3 (pb sb:Nat) (whole:V4) (l:List St) (fr t_o:Int) (g:V4->V4) (w:WD) (e:Ending) (w':WD):Prop:=
 e=.returned (.tuple #[])/\∃ sb' cap' l',Ql l fr t_o g l'/\Ci w' pb sb' cap' whole l'/\(sb'=sb\/w.heap.size<=sb')/\Mod (fun b=>b=pb\/b=sb) w w'
def Qm (pb sb vb:Nat) (V whole:V4) (w wr:WD) (sb2 cap2:Nat) (M:List St):Prop:=
 Ci wr pb sb2 cap2 whole M/\(sb2=sb\/w.heap.size<=sb2)/\Mod (fun b=>b=pb\/b=sb) w wr/\wr.heap[vb]?=some (.cells V.cells 30 (0,0))/\vb≠pb/\vb≠sb2
def World.kq (w:WD) (sb i:Nat) (f:V4):WD:=
 (((w.setCell ⟨sb,i*5+1,none⟩ (.int .i64 f.a)).setCell ⟨sb,i*5+2,none⟩ (.int .i64 f.b)).setCell ⟨sb,i*5+3,none⟩ (.int .i64 f.c)).setCell ⟨sb,i*5+4,none⟩ (.int .i64 f.d)
def Row.kq    (h:Row w b cap l) (i:Nat) (f:V4) (g:i<l.length):Row (World.kq w b i f) b cap (l.set i ⟨(nth l i).t,f⟩):=by
 have n:=h.l9 i ⟨(nth l i).t,f⟩ g;have d:=(h.cells g).1;refine n.of_block ?_;obtain ⟨_,_,k,c,_⟩:=h
 have a:(w.setCell ⟨b,i*5,none⟩ (.int .i64 (nth l i).t)).heap[b]?=w.heap[b]?:=by
  rw [Am c,c];rw [Aa c] at d;congr 2;apply Array.ext
  .simp
  .intro j h1 m;rw [Array.getElem_setIfInBounds];split
   .next e=>subst e;rw [Oo m] at d;exact (Lx d).symm
   .rfl
 unfold World.kq World.l9;rw [Am (Am (Am (Am c _ _) _ _) _ _) _ _];rw [Am (Am (Am (Am (a.trans c) _ _) _ _) _ _) _ _]
def Mod.kq {S:Nat->Prop} (w:WD) (b i:Nat) (f:V4) (a:S b):Mod S w (World.kq w b i f):=
 (((Mod.setCell _ _ _ _ a).trans (Mod.setCell _ _ _ _ (.inl a))).trans (Mod.setCell _ _ _ _ (.inl a))).trans (Mod.setCell _ _ _ _ (.inl a))
def Af4 {i s j:Nat}  {w wr g:WD} {c e:Nat}  (h:Qm i s j V whole w wr c e M) (d:BW wr.heap.size wr g) (a:Nat) (f:V4) (x:a<M.length) :
  Qm i s j V whole w (World.kq g c a f) c e (M.set a ⟨(nth M a).t,f⟩):=by
 obtain ⟨⟨p,q,r⟩,m,u,n,v,o⟩:=h;have y:=Ab p;have z:=q.lt;have l3:=Ab n;have l:Mod (fun b=>b=c) g (World.kq g c a f):=Mod.kq g c a f rfl;have s4:=d.size;refine ⟨⟨?_,(q.below d z).kq a f x,r⟩,m,?_,?_,v,o⟩
 .rw [l.block i (by omega) r,d.block i y,p,Dm]
 .refine (u.trans (Mod.af d)).trans (Mod.mono l ?_);rintro k _ rfl;rcases m with h | h
  .exact .inl (.inr h)
  .exact .inr h
 .rw [l.block j (by omega) o,d.block j l3];exact n
def Af5 {d m r:Nat}    {g:V4->V4} {w wr f:WD} {b a:Nat}  (h:Qm d m r V whole w wr b a M) (p:Ql l fr t_o g (B6 M))
  (n:Row f b a (B6 M)) (c:Mod (·=b) wr f):Af3 d m whole l fr t_o g w (.returned (.tuple #[])) (f.setCell ⟨d,4,none⟩ (.slice (some ⟨b,0,none⟩) (B6 M).length a)):=by
 obtain ⟨⟨j,v,e⟩,i,o,s,t,u⟩:=h;have q:=Ab j;refine ⟨rfl,b,a,B6 M,p,⟨?_,n.of_block (Cm _ _ _ _ (P3 e)),e⟩,i,?_⟩
 .rw [Am ((c.block d q e).trans j)];simp
 .refine (o.trans (c.mono ?_)).trans (Mod.setCell _ _ _ _ (.inl (.inl rfl)));rintro k _ rfl;rcases i with h | h
  .exact .inl (.inr h)
  .exact .inr h
def Af6 (pb sb cap vb:Nat) (V whole:V4) (l:List St) (fr t_o:Int) (F:FuncId) (g:V4->V4) (w:WD) (hp:Ci w pb sb cap whole l) (hl:Cc l)
  (h0:0<=fr) (h1:fr<t_o) (h2:t_o<=1099511627776) (hv:w.heap[vb]?=some (.cells V.cells 30 (0,0))) (aO:vb≠pb) (aU:vb≠sb)
  (hF:∀ args w,(callFunc F args).run prog w=.ok (.enter F args) w)
  (H:∀ (s:V4) (w1:WD),w1.heap[vb]?=some (.cells V.cells 30 (0,0))->CS prog F #[s.val,.pointer (some ⟨vb,0,none⟩)] w1 fun e w2=>e=.returned (g s).val/\BW w1.heap.size w1 w2) :
  CS prog 278 #[.pointer (some ⟨pb,0,none⟩),.int .i64 fr,.int .i64 t_o,.func (.func F) #[] #[.pointer (some ⟨vb,0,none⟩)]] w (Af3 pb sb whole l fr t_o g w):=by
 replace ⟨H,hp,hl,hv,aO,aU⟩:=H6 H hp hl hv aO aU;go_enter func278,ntmps278;go_wp2_with fail;refine (Af2 pb sb cap whole l fr w hp.out hl.out h0 (by omega)).mono ?_;rintro e w2 ⟨i,y,av,r,rfl,aD,aG,aM,aK⟩;obtain ⟨aE,bc,aP,bl,aW,aX⟩:=aD.facts hl.out (by omega);have p4:=Aa aG.head 4;simp at p4;have bd:=aE.len;have hC:Qm pb sb vb V whole w w2 y av r:=⟨aG,aM,aK.mono fun k _ h=>.inl h,(aK.block vb (Ab hv.out) aO.out).trans hv.out,aO.out,by rcases aM with h | h;(rw [h];exact aU.out);(have:=Ab hv.out;omega)⟩;replace ⟨hC,aD,aE,aG,aM,aK,aP,aW⟩:=H8 hC aD aE aG aM aK aP aW;replace aX:=Hh aX;by_cases a8:t_o<1099511627776
 .go_wp2_with fail;refine (Af2 pb y av whole r t_o w2 aG.out aE.out (by omega) h2).mono ?_;rintro e w3 ⟨n,ap,aA,l2,rfl,aJ,aT,aN,aL⟩;obtain ⟨aR,bn,aZ,bo,aS,a0⟩:=aJ.facts aE.out a8;have aQ:i<=n:=by have:=aS i bc (by rw [aP.out];omega);omega
  have aB:Qm pb sb vb V whole w w3 ap aA l2:=by
   obtain ⟨_,a2,a3,a4,a5,a6⟩:=hC.out;refine ⟨aT,?_,a3.trans (aL.mono fun k _ h=>.inl (.inl h)),(aL.block vb (Ab a4) a5).trans a4,a5,?_⟩
   .rcases aN with h | h
    .rw [h];exact a2
    .exact .inr (A5 a3.size h)
   .rcases aN with h | h
    .rw [h];exact a6
    .have:=Ab a4;omega
  have an:(t_o<1099511627776/\Qk r t_o n l2)\/(t_o=1099511627776/\l2=r/\n=r.length):=.inl ⟨a8,aJ⟩;have be:=aR.len;replace ⟨aB,an,aR,aJ,aT,aN,aL,aZ⟩:=H8 aB an aR aJ aT aN aL aZ;replace ⟨aS,a0⟩:=H2 aS a0;clear p4;go_wp2;go_loopw [10] (fun k wr=>∃ (a:Nat) (M:List St),i<=a/\a<=n/\k=.int .i64 a/\Hid (M=Gq g i a l2)/\Hid (Qm pb sb vb V whole w wr ap aA M)) (fun k _=>n-(intOf k).toNat)
  case atStart=>exact ⟨i,l2,Nat.le_refl _,aQ,rfl,(Afz g i l2).symm,aB.out⟩
  case round=>
   obtain ⟨a,M,al,bb,rfl,hM,z⟩:=hrel;obtain ⟨c,x,v,u,a1,a7⟩:=z.out;have q:M.length=l2.length:=(by rw [hM.out];exact Sa g i a l2 al (by omega));have q4:=Aa c.head 4;have qf:=Af c.head 4;simp at q4;have ao:=Ab c.head;have j:=c.row.lt;have aI:=c.ne;have a9:M.length<=1099511627777:=(by omega);by_cases bf:a<n
   .have aF:(a:Int)<n:=(by omega);have aC:a<M.length:=(by omega);have aY:(a:Int)<M.length:=(by omega);have ba:(0:Int)<=(a:Int):=(by omega);obtain ⟨c0,c1,c2,c3,c4⟩:=c.row.cells (i:=a) aC;have ff:=c.row.free;replace ⟨q,c,x,v,u,ff⟩:=H6 q c x v u ff;have aV:Hid (wr.drew.heap[vb]?=some (.cells V.cells 30 (0,0))):=u.out;go_wp2_with fail;go_region_law
     (first
       | (go_simp
          (with_reducible refine (H.out (nth M a).f _ aV.out).mono ?_)
          rintro e w4 ⟨rfl,b⟩;replace b:=Ib b;have bg:=(Ag b ao).trans q4;have d1:=(Ag b (o:=a*5+1) j).trans c1;have d2:=(Ag b (o:=a*5+2) j).trans c2;have d3:=(Ag b (o:=a*5+3) j).trans c3;have d4:=(Ag b (o:=a*5+4) j).trans c4;have f1:=(b.frozen (p:=⟨ap,a*5+1,none⟩) j).trans (ff _);have f2:=(b.frozen (p:=⟨ap,a*5+2,none⟩) j).trans (ff _);have f3:=(b.frozen (p:=⟨ap,a*5+3,none⟩) j).trans (ff _);have f4:=(b.frozen (p:=⟨ap,a*5+4,none⟩) j).trans (ff _)
          replace b:=Hh b))
    all_goals
     go_wp2;go_roundw
     case rel=>
      refine ⟨a+1,M.set a ⟨(nth M a).t,g (nth M a).f⟩,by omega,by omega,by go_num,?_,Af4 z.out b.out a (g (nth M a).f) aC⟩;show _=Gq g i (a+1) l2;have hx:=Sb g i a l2 al (by omega) a (by have:=q.out;omega);rw [Ac (by omega),<- hM.out] at hx;rw [Af0 g i a l2 al (by have:=q.out;omega),<- hM.out,hx]
     case measure=>simp [intOf];omega
   .have aF:¬ (a:Int)<n:=(by omega);have ad:a=n:=(by omega);have ac:Ql l fr t_o g (B6 M):=⟨i,r,n,l2,aD.out,an.out,by rw [hM.out,ad]⟩;have am:=c.row;replace ⟨ad,q,ac,c,x,v,u,am⟩:=H8 ad q ac c x v u am;go_wp2_with fail;refine (Afy ap aA M wr am.out (by omega)).mono ?_;rintro e w5 ⟨rfl,m,d⟩;have bi:=(Bp (w:=wr) (d.block pb ao aI)).trans q4;have bk:=(Oq (w:=wr) (d.block pb ao aI)).trans qf;replace ⟨m,d⟩:=H2 m d;go_wp2;go_end0;exact Af5 z.out ac.out m.out d.out
 .have aH:t_o=1099511627776:=by omega
  have aQ:i<=r.length:=by omega
  have aB:=hC;replace aH:=Hh aH;go_wp2;go_loopw [10] (fun k wr=>∃ (a:Nat) (M:List St),i<=a/\a<=r.length/\k=.int .i64 a/\Hid (M=Gq g i a r)/\Hid (Qm pb sb vb V whole w wr y av M)) (fun k _=>r.length-(intOf k).toNat)
  case atStart=>exact ⟨i,r,Nat.le_refl _,aQ,rfl,(Afz g i r).symm,aB.out⟩
  case round=>
   obtain ⟨a,M,al,bb,rfl,hM,z⟩:=hrel;obtain ⟨c,x,v,u,a1,a7⟩:=z.out;have q:M.length=r.length:=(by rw [hM.out];exact Sa g i a r al (by omega));have q4:=Aa c.head 4;have qf:=Af c.head 4;simp at q4;have ao:=Ab c.head;have j:=c.row.lt;have aI:=c.ne;have a9:M.length<=1099511627777:=(by omega);by_cases bf:a<r.length
   .have aF:(a:Int)<r.length:=(by omega);have aC:a<M.length:=(by omega);have aY:(a:Int)<M.length:=(by omega);have ba:(0:Int)<=(a:Int):=(by omega);obtain ⟨c0,c1,c2,c3,c4⟩:=c.row.cells (i:=a) aC;have ff:=c.row.free;replace ⟨q,c,x,v,u,ff⟩:=H6 q c x v u ff;have aV:Hid (wr.drew.heap[vb]?=some (.cells V.cells 30 (0,0))):=u.out;go_wp2_with fail;go_region_law
     (first
       | (go_simp
          (with_reducible refine (H.out (nth M a).f _ aV.out).mono ?_)
          rintro e w4 ⟨rfl,b⟩;replace b:=Ib b;have bg:=(Ag b ao).trans q4;have d1:=(Ag b (o:=a*5+1) j).trans c1;have d2:=(Ag b (o:=a*5+2) j).trans c2;have d3:=(Ag b (o:=a*5+3) j).trans c3;have d4:=(Ag b (o:=a*5+4) j).trans c4;have f1:=(b.frozen (p:=⟨y,a*5+1,none⟩) j).trans (ff _);have f2:=(b.frozen (p:=⟨y,a*5+2,none⟩) j).trans (ff _);have f3:=(b.frozen (p:=⟨y,a*5+3,none⟩) j).trans (ff _);have f4:=(b.frozen (p:=⟨y,a*5+4,none⟩) j).trans (ff _)
          replace b:=Hh b))
    all_goals
     go_wp2;go_roundw
     case rel=>
      refine ⟨a+1,M.set a ⟨(nth M a).t,g (nth M a).f⟩,by omega,by omega,by go_num,?_,Af4 z.out b.out a (g (nth M a).f) aC⟩;show _=Gq g i (a+1) r;have hx:=Sb g i a r al (by omega) a (by have:=q.out;omega);rw [Ac (by omega),<- hM.out] at hx;rw [Af0 g i a r al (by have:=q.out;omega),<- hM.out,hx]
     case measure=>simp [intOf];omega
   .have aF:¬ (a:Int)<r.length:=(by omega);have ad:a=r.length:=(by omega);have ac:Ql l fr t_o g (B6 M):=⟨i,r,r.length,r,aD.out,(.inr ⟨aH.out,rfl,rfl⟩),by rw [hM.out,ad]⟩;have am:=c.row;replace ⟨ad,q,ac,c,x,v,u,am⟩:=H8 ad q ac c x v u am;go_wp2_with fail;refine (Afy y av M wr am.out (by omega)).mono ?_;rintro e w5 ⟨rfl,m,d⟩;have bi:=(Bp (w:=wr) (d.block pb ao aI)).trans q4;have bk:=(Oq (w:=wr) (d.block pb ao aI)).trans qf;replace ⟨m,d⟩:=H2 m d;go_wp2;go_end0;exact Af5 z.out ac.out m.out d.out
def pl:List St->Int->Nat
 | [],_=>0
 | [_],_=>0
 | _ :: s :: r,t=>if s.t<=t then pl (s :: r) t+1 else 0
def Ja (s:St) (r:List St):nth (s :: r) 0=s:=rfl
def Es (s:St) (r:List St) (i:Nat):nth (s :: r) (i+1)=nth r i:=by simp [nth]
def Aaq {s:St} {r:List St} (h:Md (s :: r)):Md r:=by
 intro i j a b;have:=h (i+1) (j+1) (by omega) (by simpa using b);simpa [Es] using this
def Kk.pq  {t:Int}  (h:Kk l t k) (d:Md l):k=pl l t:=by
 induction l generalizing k with
 | nil=>exact absurd h.1 (by simp)
 | cons s r ih=>
  cases r with
  | nil=>have:=h.1;simp at this;simpa [pl] using this
  | cons s2 r2=>
   simp only [pl];obtain ⟨h1,a,c⟩:=h;by_cases f:s2.t<=t
   .rw [Ad f]
    cases k with
    | zero=>have:=c 1 (by omega) (by simp);simp only [Es,Ja] at this;omega
    | succ k=>
     have:=ih (k:=k) ⟨by simpa using h1,by simpa [Es] using a,fun j g b=>by have:=c (j+1) (by omega) (by simpa using b);simpa [Es] using this⟩ (Aaq d);omega
   .rw [Ac f]
    cases k with
    | zero=>rfl
    | succ k=>
     exfalso;rw [Es] at a;by_cases e:k=0
     .subst e;rw [Ja] at a;omega
     .have:=d 1 (k+1) (by omega) h1;simp only [Es,Ja] at this;omega
def Pd (v:V4) (b:Int):List St->V4
 | []=>v
 | s :: r=>if b<=s.t then v else Pd (v.least s.f) b r
def Ec (v:V4):List St->V4
 | []=>v
 | s :: r=>Ec (v.least s.f) r
def Aqp (v:V4) (l:List St) (s:St):Ec v (l++[s])=(Ec v l).least s.f:=by
 induction l generalizing v with
 | nil=>rfl
 | cons a l ih=>exact ih _
def Af7 (b:Int) (l:List St) (n:Nat) (c:n<=l.length):∀ v,(∀ j,j<n->(nth l j).t<b)->(n<l.length->b<=(nth l n).t)->Pd v b l=Ec v (l.take n):=by
 induction l generalizing n with
 | nil=>
  intro v _ _;have:n=0:=by simpa using c
  subst this;rfl
 | cons s r ih=>
  intro v h1 a
  cases n with
  | zero=>simp only [Pd,List.take_zero,Ec];rw [Ad (by have:=a (by simp);rwa [Ja] at this)]
  | succ n=>
   simp only [Pd,List.take_succ_cons,Ec];rw [Ac (by have:=h1 0 (by omega);rw [Ja] at this;omega)];exact ih n (by simpa using c) _ (fun j d=>by have:=h1 (j+1) (by omega);rwa [Es] at this) (fun h=>by have:=a (by simpa using h);rwa [Es] at this)
def Lg (whole:V4) (l:List St) (fr t_o:Int):V4:=
 if min t_o 1099511627776<=max fr 0 then whole else Pd whole (min t_o 1099511627776) (l.drop (pl l (max fr 0)))
def Nb (l:List St) (k j:Nat):nth (l.drop k) j=nth l (k+j):=by simp [nth]
def Af8  {t e:TypeId} {i:TypeInfo} (d:P.underlying t=some (.slice e)) (f:P.info? e=some i) (b a cap n:Nat) (x:Int) (h:x=n) (k:n<a) (j:a<=cap) (size:Nat) (g:i.size=size) :
  ∃ m mc,(∀ w,(Instr.slice t (.slice (some ⟨b,0,none⟩) a cap) (some (.int .i64 x)) none none).run P w=.ok (.slice (some ⟨b,n*size,none⟩) m mc) w)/\Hid (m=a-n):=by
 obtain ⟨ta,h1,c⟩:=Ro d f b a cap n x h (by omega);obtain rfl:=c (by omega);rw [g] at h1;exact ⟨_,_,h1,rfl⟩
def Aqq   {k a m:Nat} {B:Int} (_hk:k<l.length) (e:m=l.length-k) (d:a<=m) (h1:∀ j,j<a->(nth l (k+j)).t<B) (b:a<m->B<=(nth l (k+a)).t) :
  Pd whole B (l.drop k)=Ec whole ((l.drop k).take a):=
 Af7 B (l.drop k) a (by rw [G2];omega) whole (fun j c=>by rw [Nb];exact h1 j c) (fun h=>by rw [Nb];exact b (by rw [G2] at h;omega))
def Aqr (whole:V4) (l:List St) (k a:Nat) (h:k+a<l.length):(Ec whole ((l.drop k).take a)).least (nth l (k+a)).f=Ec whole ((l.drop k).take (a+1)):=by
 rw [Tz _ a (by rw [G2];omega),Aqp,Nb]
def Aqs (u sb cap:Nat) (whole:V4) (l:List St) (fr t_o:Int) (w:WD) (o:Ci w u sb cap whole l) (hl:Cc l) :
  CS prog 277 #[.pointer (some ⟨u,0,none⟩),.int .i64 fr,.int .i64 t_o] w fun e w'=>e=.returned (Lg whole l fr t_o).val/\BW w.heap.size w w':=by
 obtain ⟨i0,aE,aP,aG,aQ⟩:=Cb Xc;have aH:=hl.len;have an:=o.row.le;obtain ⟨A,hA⟩:=Ex (max fr 0);obtain ⟨B,hB⟩:=Ex (min t_o 1099511627776);have n:Lg whole l fr t_o=if B<=A then whole else Pd whole B (l.drop (pl l A)):=by rw [hA,hB];rfl
 have c0:=Aa o.head 0;have c1:=Aa o.head 1;have c2:=Aa o.head 2;have c3:=Aa o.head 3;have c4:=Aa o.head 4;simp at c0 c1 c2 c3 c4;have ap:=Ab o.head;have av:=o.row.lt;replace ⟨o,hl,n⟩:=H3 o hl n;go_enter func277,ntmps277;have aN:(if fr<0 then 0 else fr)=A:=by rw [hA];omega
 have aM:(if 1099511627776<t_o then 1099511627776 else t_o)=B:=by rw [hB];omega
 have aB:0<=A:=by omega
 have aJ:B<=1099511627776:=by omega
 replace ⟨hA,hB⟩:=H2 hA hB;by_cases al:B<=A
 .replace n:=Hh (n.trans (Ad al));go_wp2;refine Ak (v:=whole.val) (by simp [results,results277,go_sem]) rfl ⟨by rw [n.out],?_⟩;exact Bn.alloc (by simp) _
 .have aI:A<1099511627776:=by omega
  replace n:=Hh (n.trans (Ac al));go_wp2_with fail
  have p4:∀ o1 o2,((w.alloc o1).alloc o2).drew.cell? ⟨u,4,none⟩=some (.slice (some ⟨sb,0,none⟩) l.length cap):=fun o1 o2=>by
   rw [<- c4];exact Bp (w:=w) ((Gz _ o2 u (by simp;omega)).trans (Gz w o1 u ap))
  have ad:∀ o1 o2,Ci ((w.alloc o1).alloc o2).drew u sb cap whole l:=fun o1 o2=>by
   have hb:BW w.heap.size w ((w.alloc o1).alloc o2).drew:=(Bn.alloc (by simp) _).drew;exact ⟨Ae hb o.head ap,o.row.below hb av,o.ne⟩
  replace ⟨p4,ad⟩:=H2 p4 ad;go_region_held3 (fun w'=>w'.cell? ⟨u,4,none⟩=some (.slice (some ⟨sb,0,none⟩) l.length cap))
   (first
     | go_keep
     | (rw [Ag p (by simp;omega)];exact p4.out _ _))
   (first
     | (go_at_call 313;refine (Xb u sb cap whole l A _ (ad _ _) hl.out aB (by omega)).mono ?_;rintro e w2 ⟨k,rfl,hk,p⟩;obtain ⟨m,mc,aO,hm⟩:=Af8 (i:=i0) Lu aE sb l.length cap k (k:Int) rfl hk.1 an 5 aG;have aF:=hk.1
        replace hk:=Hh hk))
  have aL:m<=1099511627777:=by have:=hm.out;omega
  have ac:=hk.pq hl.az;have s:Lg whole l fr t_o=Pd whole B (l.drop k):=by rw [ac];exact n.out
  replace ⟨ac,s⟩:=H2 ac s;have y:=((Bn.alloc (by simp) _).drew).trans (p.mono (by simp;omega));have g1:=Ae p (Rn (A3 (b:=w.heap.size+1) _ _ (by simp))) (by simp);have g0:=Ae p (Rn (Aj _ (Ah _ _))) (by simp;omega);replace ⟨y,g0,g1,p⟩:=H4 y g0 g1 p;go_wp2;go_loopw [34] (fun c wr=>∃ a:Nat,a<=m/\c=.int .i64 a/\BW w.heap.size w wr/\Hid (wr.heap[w.heap.size+1]?=some (.cells (Ec whole ((l.drop k).take a)).cells 30 (0,0)))/\Hid (wr.heap[w.heap.size]?=some (.cells V4.zero.cells 30 (0,0)))/\Hid (∀ j,j<a->(nth l (k+j)).t<B)) (fun c _=>m-(intOf c).toNat)
  case atStart=>exact ⟨0,Aq _,rfl,y.out,g1.out,g0.out,by intro j hj;omega⟩
  case round=>
   obtain ⟨a,aC,rfl,d,G1,G0,ao⟩:=hrel;have e1:=Aa G1.out;have e0:=Aa G0.out;have aA:=Af G0.out;have x1:=e1 0;have x2:=e1 1;have x3:=e1 2;have x4:=e1 3;have y1:=e0 0;have y2:=e0 1;have y3:=e0 2;have y4:=e0 3;have l1:=Ab G1.out;have l0:=Ab G0.out;simp at x1 x2 x3 x4 y1 y2 y3 y4;clear e1 e0
   have g:∀ (hd:a<m->B<=(nth l (k+a)).t),Lg whole l fr t_o=Ec whole ((l.drop k).take a):=fun hd=>by
    rw [s.out];exact Aqq aF hm.out aC ao.out hd
   replace g:=Hh g;by_cases hc:a<m
   .have aD:(a:Int)<m:=(by omega);have aK:(0:Int)<=(a:Int):=(by omega);obtain ⟨c0,c1,c2,c3,c4⟩:=(o.row.below d av).cells (i:=k+a) (by have:=hm.out;omega);simp only [Lz] at c0 c1 c2 c3 c4;by_cases hb:(nth l (k+a)).t<B
    .have am:¬ B<=(nth l (k+a)).t:=(by omega);go_wp2_with fail;refine (Apy (Ec whole ((l.drop k).take a)) (nth l (k+a)).f _).mono ?_;rintro e w4 ⟨rfl,r⟩;rw [Aqr whole l k a (by have:=hm.out;omega)];have z:=(d.alloc d.size _).trans (r.mono (by have:=d.size;simp;omega));have q:=Ae r (Aj _ G1.out) (by simp;omega);have x:=Ae r (Aj _ G0.out) (by simp;omega);have z1:=Aa q;have zf:=Af q;replace ⟨q,x,z,r⟩:=H4 q x z r;clear x1 x2 x3 x4 y1 y2 y3 y4 c0 c1 c2 c3 c4 aA;replace d:=Hh d;go_wp2;go_roundw
     case rel=>
      refine ⟨a+1,by omega,by go_num,?_,?_,?_,?_⟩
      .exact (((z.setCell (by simp) _).setCell (by simp) _).setCell (by simp) _).setCell (by simp) _
      .unfold Hid;rw [Am (Am (Am (Am q.out _ _) _ _) _ _) _ _];simp
      .exact C0 (by omega) _ (C0 (by omega) _ (C0 (by omega) _ (C0 (by omega) _ x.out)))
      .intro j hj;by_cases e:j=a
       .subst e;exact hb
       .exact ao.out j (by omega)
     case measure=>simp [intOf];omega
    .have am:B<=(nth l (k+a)).t:=(by omega);replace g:=Hh (g (fun _=>am));replace d:=Hh d;go_wp2;refine Ak (v:=(Ec whole ((l.drop k).take a)).val) (by simp [results,results277,go_sem,y1,y2,y3,y4,l0]) rfl ⟨by rw [g.out],?_⟩;refine Below.alloc ?_ (by have:=d.size;simpa using this) _;exact (((d.setCell Ln _).setCell Ln _).setCell Ln _).setCell Ln _
   .have aD:¬ (a:Int)<m:=(by omega);replace g:=Hh (g (fun h=>absurd h hc));replace d:=Hh d;go_wp2;refine Ak (v:=(Ec whole ((l.drop k).take a)).val) (by simp [results,results277,go_sem,y1,y2,y3,y4]) rfl ⟨by rw [g.out],?_⟩;exact (((d.setCell Ln _).setCell Ln _).setCell Ln _).setCell Ln _
def _root_.Go.Proofs.YtimlcnhcjndijaaGreatDoor.V4.dt (u v:V4):V4:=⟨max u.a v.a,max u.b v.b,max u.c v.c,max u.d v.d⟩
def Qn (v:V4) (b:Int):List St->V4
 | []=>v
 | s :: r=>if b<=s.t then v else Qn (v.dt s.f) b r
def Et (v:V4):List St->V4
 | []=>v
 | s :: r=>Et (v.dt s.f) r
def Aqt (v:V4) (l:List St) (s:St):Et v (l++[s])=(Et v l).dt s.f:=by
 induction l generalizing v with
 | nil=>rfl
 | cons a l ih=>exact ih _
def Af9 (b:Int) (l:List St) (n:Nat) (c:n<=l.length):∀ v,(∀ j,j<n->(nth l j).t<b)->(n<l.length->b<=(nth l n).t)->Qn v b l=Et v (l.take n):=by
 induction l generalizing n with
 | nil=>
  intro v _ _;have:n=0:=by simpa using c
  subst this;rfl
 | cons s r ih=>
  intro v h1 a
  cases n with
  | zero=>simp only [Qn,List.take_zero,Et];rw [Ad (by have:=a (by simp);rwa [Ja] at this)]
  | succ n=>
   simp only [Qn,List.take_succ_cons,Et];rw [Ac (by have:=h1 0 (by omega);rw [Ja] at this;omega)];exact ih n (by simpa using c) _ (fun j d=>by have:=h1 (j+1) (by omega);rwa [Es] at this) (fun h=>by have:=a (by simpa using h);rwa [Es] at this)
def Aqu  {k a m:Nat} {B:Int} (e:m=l.length-k) (d:a<=m) (h1:∀ j,j<a->(nth l (k+j)).t<B) (b:a<m->B<=(nth l (k+a)).t) :
  Qn V4.zero B (l.drop k)=Et V4.zero ((l.drop k).take a):=
 Af9 B (l.drop k) a (by rw [G2];omega) V4.zero (fun j c=>by rw [Nb];exact h1 j c) (fun h=>by rw [Nb];exact b (by rw [G2] at h;omega))
def Aqv (l:List St) (k a:Nat) (h:k+a<l.length):(Et V4.zero ((l.drop k).take a)).dt (nth l (k+a)).f=Et V4.zero ((l.drop k).take (a+1)):=by
 rw [Tz _ a (by rw [G2];omega),Aqt,Nb]
def Fg (l:List St) (fr t_o:Int):V4:=Qn V4.zero t_o (l.drop (pl l fr))
def Aqw (v:V4) (w:WD):(Instr.index 30 v.val (.int .i64 0)).run prog w=.ok (.int .i64 v.a) w:=by kernel_rfl
def Aqx (v:V4) (w:WD):(Instr.index 30 v.val (.int .i64 1)).run prog w=.ok (.int .i64 v.b) w:=by kernel_rfl
def Aqy (v:V4) (w:WD):(Instr.index 30 v.val (.int .i64 2)).run prog w=.ok (.int .i64 v.c) w:=by kernel_rfl
def Aqz (v:V4) (w:WD):(Instr.index 30 v.val (.int .i64 3)).run prog w=.ok (.int .i64 v.d) w:=by kernel_rfl
def Aga (r sb cap:Nat) (whole:V4) (l:List St) (fr t_o:Int) (w:WD) (q:Ci w r sb cap whole l) (hl:Cc l) (h0:0<=fr) (h1:fr<=1099511627776) :
  CS prog 282 #[.pointer (some ⟨r,0,none⟩),.int .i64 fr,.int .i64 t_o] w fun e w'=>e=.returned (Fg l fr t_o).val/\BW w.heap.size w w':=by
 obtain ⟨i0,aB,aJ,aD,aK⟩:=Cb Xc;have aE:=hl.len;have ad:=q.row.le;have c4:=Aa q.head 4;simp at c4;have am:=Ab q.head;have an:=q.row.lt;replace ⟨q,hl⟩:=H2 q hl;go_enter func282,ntmps282;go_wp2_with fail
 have p4:∀ y z,((w.alloc y).alloc z).drew.cell? ⟨r,4,none⟩=some (.slice (some ⟨sb,0,none⟩) l.length cap):=fun y z=>by
  rw [<- c4];exact Bp (w:=w) ((Gz _ z r (by simp;omega)).trans (Gz w y r am))
 have x:∀ y z,Ci ((w.alloc y).alloc z).drew r sb cap whole l:=fun y z=>by
  have hb:BW w.heap.size w ((w.alloc y).alloc z).drew:=(Bn.alloc (by simp) _).drew;exact ⟨Ae hb q.head am,q.row.below hb an,q.ne⟩
 replace ⟨p4,x⟩:=H2 p4 x;go_region_held3 (fun w'=>w'.cell? ⟨r,4,none⟩=some (.slice (some ⟨sb,0,none⟩) l.length cap))
  (first
    | go_keep
    | (rw [Ag o (by simp;omega)];exact p4.out _ _))
  (first
    | (go_at_call 313;refine (Xb r sb cap whole l fr _ (x _ _) hl.out h0 h1).mono ?_;rintro e w2 ⟨k,rfl,hk,o⟩;obtain ⟨m,mc,aI,hm⟩:=Af8 (i:=i0) Lu aB sb l.length cap k (k:Int) rfl hk.1 ad 5 aD;have aG:=hk.1
       replace hk:=Hh hk))
 have aH:m<=1099511627777:=by have:=hm.out;omega
 have u:=hk.pq hl.az;have p:Fg l fr t_o=Qn V4.zero t_o (l.drop k):=by rw [u];rfl
 replace ⟨u,p⟩:=H2 u p;have s:=((Bn.alloc (by simp) _).drew).trans (o.mono (by simp;omega));have g1:=Ae o (Rn (A3 (b:=w.heap.size+1) _ _ (by simp))) (by simp);have g0:=Ae o (Rn (Aj _ (Ah _ _))) (by simp;omega);replace ⟨s,g0,g1,o⟩:=H4 s g0 g1 o;go_wp2;go_loopw [10,11,21] (fun _ _ c wr=>∃ a:Nat,a<=m/\c=.int .i64 a/\BW w.heap.size w wr/\Hid (wr.heap[w.heap.size+1]?=some (.cells (Et V4.zero ((l.drop k).take a)).cells 30 (0,0)))/\Hid (wr.heap[w.heap.size]?=some (.cells V4.zero.cells 30 (0,0)))/\Hid (∀ j,j<a->(nth l (k+j)).t<t_o)) (fun _ _ c _=>m-(intOf c).toNat)
 case atStart=>exact ⟨0,Aq _,rfl,s.out,g1.out,g0.out,by intro j hj;omega⟩
 case round=>
  obtain ⟨a,av,rfl,n,G1,G0,al⟩:=hrel;obtain ⟨X,hX⟩:=Ex (Et V4.zero ((l.drop k).take a));rw [<- hX] at G1;have e1:=Aa G1.out;have e0:=Aa G0.out;have ao:=Af G0.out;have x1:=e1 0;have x2:=e1 1;have x3:=e1 2;have x4:=e1 3;have y1:=e0 0;have y2:=e0 1;have y3:=e0 2;have y4:=e0 3;have l1:=Ab G1.out;have l0:=Ab G0.out;simp at x1 x2 x3 x4 y1 y2 y3 y4;clear e1 e0
  have g:∀ (hd:a<m->t_o<=(nth l (k+a)).t),Fg l fr t_o=X:=fun hd=>by
   rw [p.out,hX];exact Aqu hm.out av al.out hd
  replace ⟨g,hX⟩:=H2 g hX;by_cases hc:a<m
  .have aA:(a:Int)<m:=(by omega);have aF:(0:Int)<=(a:Int):=(by omega);obtain ⟨c0,c1,c2,c3,c4⟩:=(q.row.below n an).cells (i:=k+a) (by have:=hm.out;omega);simp only [Lz] at c0 c1 c2 c3 c4;by_cases hb:(nth l (k+a)).t<t_o
   .have ac:¬ t_o<=(nth l (k+a)).t:=(by omega);obtain ⟨F,hF⟩:=Ex ((nth l (k+a)).f);rw [<- hF] at c1 c2 c3 c4;replace hF:=Hh hF;clear y1 y2 y3 y4 ao;replace n:=Hh n;go_wp2;have ma:(if X.a<F.a then F.a else X.a)=(X.dt F).a:=(by simp only [V4.dt];omega);have mb:(if X.b<F.b then F.b else X.b)=(X.dt F).b:=(by simp only [V4.dt];omega);have mc:(if X.c<F.c then F.c else X.c)=(X.dt F).c:=(by simp only [V4.dt];omega);have md:(if X.d<F.d then F.d else X.d)=(X.dt F).d:=(by simp only [V4.dt];omega);have ff:=Af G1.out;have i0:=Aqw F;have i1:=Aqx F;have i2:=Aqy F;have i3:=Aqz F;refine Tc 5 ?_;rw [Mz];go_wp2;rw [Mz];go_wp2;rw [Mz];go_wp2;rw [Mz];go_wp2;rw [Mz];go_wp2;go_roundw
    case rel=>
     have aC:=n.size;have ap:X.dt F=Et V4.zero ((l.drop k).take (a+1)):=(by rw [hX.out,hF.out];exact Aqv l k a (by have:=hm.out;omega));refine ⟨a+1,by omega,by go_num,?_,?_,?_,?_⟩
     .refine Below.alloc ?_ (by simpa using aC) _;exact (((n.setCell (by simp) _).setCell (by simp) _).setCell (by simp) _).setCell (by simp) _
     .unfold Hid;refine Aj _ ?_;rw [Am (Am (Am (Am G1.out _ _) _ _) _ _) _ _,<- ap];simp
     .unfold Hid;exact Aj _ (C0 (by omega) _ (C0 (by omega) _ (C0 (by omega) _ (C0 (by omega) _ G0.out))))
     .intro j hj;by_cases e:j=a
      .subst e;exact hb
      .exact al.out j (by omega)
    case measure=>simp [intOf];omega
   .have ac:t_o<=(nth l (k+a)).t:=(by omega);replace g:=Hh (g (fun _=>ac));replace n:=Hh n;go_wp2;refine Ak (v:=X.val) (by simp [results,results282,go_sem,y1,y2,y3,y4,l0]) rfl ⟨by rw [g.out],?_⟩;refine Below.alloc ?_ (by have:=n.size;simpa using this) _;exact (((n.setCell Ln _).setCell Ln _).setCell Ln _).setCell Ln _
  .have aA:¬ (a:Int)<m:=(by omega);replace g:=Hh (g (fun h=>absurd h hc));replace n:=Hh n;go_wp2;refine Ak (v:=X.val) (by simp [results,results282,go_sem,y1,y2,y3,y4]) rfl ⟨by rw [g.out],?_⟩;exact (((n.setCell Ln _).setCell Ln _).setCell Ln _).setCell Ln _
def Bi (fr t_o:Int) (v:V4):Bool:=decide (0<=fr) && decide (fr<t_o) && decide (t_o<=1099511627776) && v.right
def Agb (fr t_o:Int) (v:V4) (w:WD) :
  CS prog 276 #[.int .i64 fr,.int .i64 t_o,v.val] w fun e w'=>e=.returned (.bool (Bi fr t_o v))/\BW w.heap.size w w':=by
 by_cases h1:0<=fr
 .by_cases c:fr<t_o
  .by_cases d:t_o<=1099511627776
   .have a:Bi fr t_o v=v.right:=(by simp [Bi,h1,c,d]);rw [a];clear a;go_enter Vv,Vq;go_wp2_with fail;refine (I5 v _).mono ?_;rintro e f ⟨rfl,b⟩;go_wp2;go_ret;exact ⟨rfl,Bn.trans (b.mono (by simp))⟩
   .have a:Bi fr t_o v=false:=(by simp [Bi,d]);rw [a];clear a;go_enter Vv,Vq;go_wp2;go_ret;exact ⟨rfl,Bn⟩
  .have a:Bi fr t_o v=false:=(by simp [Bi,c]);rw [a];clear a;go_enter Vv,Vq;go_wp2;go_ret;exact ⟨rfl,Bn⟩
 .have a:Bi fr t_o v=false:=by simp [Bi,h1]
  rw [a];clear a;go_enter Vv,Vq;go_wp2;go_ret;exact ⟨rfl,Bn⟩
def Aq0:∀ args w,(callFunc 279 args).run prog w=.ok (.enter 279 args) w:=I4 func279 (by decide) (by simp [f279])
def Aq1:∀ args w,(callFunc 283 args).run prog w=.ok (.enter 283 args) w:=I4 func283 (by decide) (by simp [f283])
def Aq2 (s v:V4) (m:Nat) (w:WD) (d:w.heap[m]?=some (.cells v.cells 30 (0,0))) :
  CS prog 279 #[s.val,.pointer (some ⟨m,0,none⟩)] w fun e w'=>e=.returned (s.sub v).1.val/\BW w.heap.size w w':=by
 have i:=Aa d 0;have j:=Aa d 1;have k:=Aa d 2;have l:=Aa d 3;simp at i j k l;have t:=Ab d;clear d;go_enter func279,ntmps279;go_wp2_with fail;refine (Ap3 s v _).mono ?_;rintro e u ⟨rfl,a⟩;have c:=(Bn.alloc (by simp) _).trans (a.mono (by simp;omega));have g:=Ae a (Aj _ (Ah _ _)) (by simp;omega);have h:=Ae a (A3 (b:=w.heap.size+1) _ _ (by simp)) (by simp);have o:=Aa g;have p:=Af g;have n:=Aa h;have q:=Af h;replace ⟨a,c⟩:=H2 a c;clear g h i j k l;obtain ⟨r,f⟩:=Ex (s.sub v);rw [<- f];replace f:=Hh f;go_wp2;refine Ak (v:=r.1.val) (by simp [results,results279,go_sem,n]) rfl ⟨by rw [f.out],?_⟩
 repeat (refine Co ?_ (by simp) _)
 exact c.out
def Aq3 (s v:V4) (m:Nat) (w:WD) (d:w.heap[m]?=some (.cells v.cells 30 (0,0))) :
  CS prog 283 #[s.val,.pointer (some ⟨m,0,none⟩)] w fun e w'=>e=.returned (s.add v).1.val/\BW w.heap.size w w':=by
 have i:=Aa d 0;have j:=Aa d 1;have k:=Aa d 2;have l:=Aa d 3;simp at i j k l;have t:=Ab d;clear d;go_enter func283,ntmps283;go_wp2_with fail;refine (Aft s v _).mono ?_;rintro e u ⟨rfl,a⟩;have c:=(Bn.alloc (by simp) _).trans (a.mono (by simp;omega));have g:=Ae a (Aj _ (Ah _ _)) (by simp;omega);have h:=Ae a (A3 (b:=w.heap.size+1) _ _ (by simp)) (by simp);have o:=Aa g;have p:=Af g;have n:=Aa h;have q:=Af h;replace ⟨a,c⟩:=H2 a c;clear g h i j k l;obtain ⟨r,f⟩:=Ex (s.add v);rw [<- f];replace f:=Hh f;go_wp2;refine Ak (v:=r.1.val) (by simp [results,results283,go_sem,n]) rfl ⟨by rw [f.out],?_⟩
 repeat (refine Co ?_ (by simp) _)
 exact c.out
def Agc (whole:V4) (l:List St) (fr t_o:Int) (v:V4) (r:Int) (l':List St):Prop:=
 (Bi fr t_o v=false/\r=1/\l'=l)\/(Bi fr t_o v=true/\v.fits (Lg whole l fr t_o)=false/\r=60/\l'=l) \/
  (Bi fr t_o v=true/\v.fits (Lg whole l fr t_o)=true/\r=0/\Ql l fr t_o (fun f=>(f.sub v).1) l')
def Aar (pb sb:Nat) (whole:V4) (R:Int->List St->Prop) (w:WD) (e:Ending) (w':WD):Prop:=
 ∃ r sb' cap' l',e=.returned (.int .i64 r)/\R r l'/\Ci w' pb sb' cap' whole l'/\(sb'=sb\/w.heap.size<=sb')/\Mod (fun b=>b=pb\/b=sb) w w'
def Ci.below {B a b cap:Nat}    (h:Ci w a b cap whole l) (c:BW B w w') (h1:a<B) (d:b<B):Ci w' a b cap whole l:=
 ⟨Ae c h.head h1,h.row.below c d,h.ne⟩
def Ci.drew {a b cap:Nat}    (h:Ci w a b cap whole l):Ci w.drew a b cap whole l:=⟨h.head,h.row.of_block rfl,h.ne⟩
def Ci.lt {a b cap:Nat}    (h:Ci w a b cap whole l):a<w.heap.size/\b<w.heap.size:=⟨Ab h.head,h.row.lt⟩
def Me  {v:V4} (h:Bi fr t_o v=true):0<=fr/\fr<t_o/\t_o<=1099511627776/\v.right=true:=by
 simp [Bi] at h;exact ⟨h.1.1.1,h.1.1.2,h.1.2,h.2⟩
def Agd (pb sb cap:Nat) (whole:V4) (l:List St) (fr t_o:Int) (v:V4) (w:WD) (hp:Ci w pb sb cap whole l) (hl:Cc l) :
  CS prog 241 #[.pointer (some ⟨pb,0,none⟩),.int .i64 fr,.int .i64 t_o,v.val] w (Aar pb sb whole (Agc whole l fr t_o v) w):=by
 obtain ⟨ad,al⟩:=hp.lt;replace ⟨hp,hl⟩:=H2 hp hl;go_enter func241,ntmps241;go_wp2_with fail;refine (Agb fr t_o v _).mono ?_;rintro e w2 ⟨rfl,n⟩;have g:=Bn.trans (n.mono (by simp));have t:=Ae n (Ah _ _) (by simp);have p:=hp.below g ad al;have s2:=g.size;have am:=Ab t;replace ⟨n,g,p⟩:=H3 n g p;by_cases u:Bi fr t_o v=true
 .rw [u];obtain ⟨b1,b2,b3,b4⟩:=Me u;have x0:=Aa t 0;have x1:=Aa t 1;have x2:=Aa t 2;have x3:=Aa t 3;simp at x0 x1 x2 x3;replace ⟨t,u,b4⟩:=H3 t u b4;go_wp2_with fail;have an:Hid (Ci w2.drew pb sb cap whole l):=p.drew;go_region_held3 (fun w'=>w'.cell? ⟨w.heap.size,0,none⟩=some (.int .i64 v.a)/\w'.cell? ⟨w.heap.size,1,none⟩=some (.int .i64 v.b)/\w'.cell? ⟨w.heap.size,2,none⟩=some (.int .i64 v.c)/\w'.cell? ⟨w.heap.size,3,none⟩=some (.int .i64 v.d))
   (first
     | go_keep
     | (have _t:=m;go_split_ands;refine ⟨?_,?_,?_,?_⟩<;>(rw [Ag m (by omega)];assumption))
     | (go_split_ands;refine ⟨?_,?_,?_,?_⟩<;>(rw [Ag j (by simpa using am)];assumption)))
   (first
     | (go_at_call 277;refine (Aqs pb sb cap whole l fr t_o _ an.out hl.out).mono ?_;rintro e w3 ⟨rfl,j⟩;have s3:=j.size;simp at s3)
     | (go_at_call 65;refine (V0 v (Lg whole l fr t_o) _).mono ?_;rintro e w4 ⟨rfl,m⟩))
  have i:=g.trans ((Ib j).mono (by simp;omega) |>.trans (m.mono (by omega)));have q:=hp.below i ad al;have g4:=Ae m (Ae (Ib j) t.out (by simpa using am)) (by omega);have s4:=i.size;replace ⟨q,i,g4,j,m⟩:=H5 q i g4 j m;by_cases hf:v.fits (Lg whole l fr t_o)=true
  .simp only [hf];replace hf:=Hh hf;go_wp2_with fail;refine (Af6 pb sb cap w.heap.size v whole l fr t_o 279 (fun f=>(f.sub v).1) _ q.out hl.out b1 b2 b3 g4.out (by omega) (by omega) Aq0 (fun s w1 h=>Aq2 s v _ w1 h)).mono ?_;rintro e w5 ⟨rfl,ao,ac,l',hc,y,z,x⟩;replace ⟨hc,y,z,x⟩:=H4 hc y z x;go_wp2;go_ret;refine ⟨0,ao,ac,l',rfl,.inr (.inr ⟨u.out,hf.out,rfl,hc.out⟩),y.out,?_,(Mod.af i.out).trans (x.mono fun k _ h=>.inl h)⟩;rcases z.out with h | h
   .exact .inl h
   .exact .inr (A5 s4 h)
  .have o:v.fits (Lg whole l fr t_o)=false:=(by simpa using hf);simp only [o];replace o:=Hh o;clear hf;go_wp2;go_ret;exact ⟨60,sb,cap,l,rfl,.inr (.inl ⟨u.out,o.out,rfl,rfl⟩),q.out,.inl rfl,Mod.af i.out⟩
 .have r:Bi fr t_o v=false:=by simpa using u
  rw [r];replace r:=Hh r;clear u;go_wp2;go_ret;exact ⟨1,sb,cap,l,rfl,.inl ⟨r.out,rfl,rfl⟩,p.out,.inl rfl,Mod.af g.out⟩
def Km (l:List St) (aa:Int) (v:V4) (u:Int):Prop:=
 ∀ k,k<l.length->(nth l k).t<u+aa->(k+1<l.length->u<(nth l (k+1)).t)->v.fits (nth l k).f=true
def Iv (l:List St) (after aa:Int) (v:V4) (t:Int) (is:Bool):Prop:=
 if 1<=aa/\v.right=true/\after<1099511627776 then
  (is=true/\max after 0<=t/\t+aa<=1099511627776/\Km l aa v t/\∀ u,max after 0<=u->u<t->¬ Km l aa v u) \/
   (is=false/\t=0/\∀ u,max after 0<=u->u+aa<=1099511627776->¬ Km l aa v u)
 else t=0/\is=false
def Aq7 (l:List St) (after aa:Int) (v:V4) (w:WD) (e:Ending) (w':WD):Prop:=
 ∃ t is,e=.returned (.tuple #[.int .i64 t,.bool is])/\Iv l after aa v t is/\BW w.heap.size w w'
def Agj  {d t:Int} {v:V4}  (g:Cc l) (b:Kk l t p) (n:∀ j,p<=j->j<k->v.fits (nth l j).f=true) (a:k<l.length->t+d<=(nth l k).t):Km l d v t:=by
 intro j m h1 h
 have c:p<=j:=by
  apply Ii;intro i;have:=h (by have:=b.1;omega);by_cases e:j+1=p
  .rw [e] at this;have:=b.2.1;omega
  .have:=g.az (j+1) p (by omega) b.1;have:=b.2.1;omega
 refine n j c ?_;apply Ii;intro i;have o:=a (by omega);by_cases e:j=k
 .subst e;omega
 .have:=g.az k j (by omega) m;omega
def Agk  {a t u:Int} {v:V4}  (c:k<l.length) (h1:(nth l k).t<t+a) (b:v.fits (nth l k).f=false) (e:t<=u) (d:k+1<l.length->u<(nth l (k+1)).t):¬ Km l a v u:=by
 intro h;have:=h k c (by omega) d;rw [b] at this;cases this
def Aq8 (pb sb cap:Nat) (whole:V4) (l:List St) (after q:Int) (v:V4) (w:WD) (hp:Ci w pb sb cap whole l) (hl:Cc l) (ha:after<=9223372036854775807) :
  CS prog 287 #[.pointer (some ⟨pb,0,none⟩),.int .i64 after,.int .i64 q,v.val] w (Aq7 l after q v w):=by
 obtain ⟨aH,aI⟩:=hp.lt;have aV:=hl.len;replace ⟨hp,hl⟩:=H2 hp hl;by_cases h1:1<=q
 .have aZ:decide (q<1)=false:=by simp;omega
  go_enter func287,ntmps287;go_wp2_with fail;go_step3;go_wp2_with fail;refine (I5 v _).mono ?_;rintro e w2 ⟨rfl,aC⟩;have s:=Bn.trans (aC.mono (by simp));have g2:=Ae aC (Ah _ _) (by simp);have s2:=s.size;replace ⟨aC,s,g2⟩:=H3 aC s g2;by_cases hr:v.right=true
  .rw [hr];replace hr:=Hh hr;by_cases aQ:after<1099511627776
   .obtain ⟨A,hA⟩:=Ex (max after 0);have a4:(if after<0 then 0 else after)=A:=(by rw [hA];omega);have aX:0<=A:=(by omega);have aP:A<1099511627776:=(by omega);have a0:decide (1099511627776<=after)=false:=(by simp;omega);replace hA:=Hh hA
    have n:Iv l after q v=fun t is=>(is=true/\A<=t/\t+q<=1099511627776/\Km l q v t/\∀ u,A<=u->u<t->¬ Km l q v u)\/(is=false/\t=0/\∀ u,A<=u->u+q<=1099511627776->¬ Km l q v u):=by
     funext t is
     unfold Iv;rw [Ad ⟨h1,hr.out,aQ⟩,<- hA.out]
    replace n:=Hh n;go_wp2;go_step3;go_wp2;go_loopw [10,11] (fun av _ wr=>∃ T:Int,av=.int .i64 T/\A<=T/\T<1099511627776/\Hid (BW w2.heap.size w2 wr)/\Hid (∀ u,A<=u->u<T->¬ Km l q v u)) (fun av _ _=>1099511627776-(intOf av).toNat)
    case atStart=>exact ⟨A,rfl,Cz _,aP,Below.refl _ _,by intro u h1 h2;omega⟩
    case round=>
     obtain ⟨T,rfl,aK,hT,aF,ao⟩:=hrel;have aA:=s.trans (aF.mono s2);have ap:=hp.below aA aH aI;replace aA:=Hh aA;by_cases a6:q<=1099511627776-T
     .go_wp2_with fail;refine (Xb pb sb cap whole l T wr ap hl.out (by omega) (by omega)).mono ?_;rintro e w3 ⟨p,rfl,y,aG⟩;have aW:=y.1;have ac:=aF.trans (aG.mono aF.size);replace ⟨y,aG,ac,ap⟩:=H4 y aG ac ap;go_wp2;go_loopw [10,11] (fun av aJ wx=>∃ k:Nat,av=.int .i64 T/\aJ=.int .i64 k/\k<=l.length/\p<=k/\Hid (BW w2.heap.size w2 wx)/\Hid (∀ j,p<=j->j<k->v.fits (nth l j).f=true)) (fun _ aJ _=>l.length-(intOf aJ).toNat)
      case atStart=>exact ⟨p,rfl,rfl,by omega,Nat.le_refl _,ac.out,by intro j h1 h2;omega⟩
      case round=>
       obtain ⟨k,rfl,rfl,a3,a5,aB,am⟩:=hrel;have m:=s.trans (aB.mono s2);have r:=hp.below m aH aI;have q4:=Aa r.head 4;simp at q4;by_cases hk:k<l.length
       .have aR:(k:Int)<l.length:=(by omega);have a1:(0:Int)<=(k:Int):=(by omega);obtain ⟨c0,c1,c2,c3,c4⟩:=r.row.cells (i:=k) hk;by_cases aL:(nth l k).t<T+q
        .have gx:=Ae aB.out g2.out (Ab g2.out);have x0:=Aa gx 0;have x1:=Aa gx 1;have x2:=Aa gx 2;have x3:=Aa gx 3;simp at x0 x1 x2 x3;have aE:=Ab gx;have aU:=r.lt;obtain ⟨aT,aD⟩:=aU;replace ⟨gx,r,m⟩:=H3 gx r m;go_wp2_with fail
         go_region_held3 (fun w'=>w'.cell? ⟨w.heap.size,0,none⟩=some (.int .i64 v.a)/\w'.cell? ⟨w.heap.size,1,none⟩=some (.int .i64 v.b)/\w'.cell? ⟨w.heap.size,2,none⟩=some (.int .i64 v.c)/\w'.cell? ⟨w.heap.size,3,none⟩=some (.int .i64 v.d)/\w'.cell? ⟨pb,4,none⟩=some (.slice (some ⟨sb,0,none⟩) l.length cap) /\
          w'.cell? ⟨sb,k*5+1,none⟩=some (.int .i64 (nth l k).f.a)/\w'.cell? ⟨sb,k*5+2,none⟩=some (.int .i64 (nth l k).f.b)/\w'.cell? ⟨sb,k*5+3,none⟩=some (.int .i64 (nth l k).f.c)/\w'.cell? ⟨sb,k*5+4,none⟩=some (.int .i64 (nth l k).f.d))
          (first
            | (go_keep;done)
            | (go_split_ands;refine ⟨?_,?_,?_,?_,?_,?_,?_,?_,?_⟩
               · (rw [Ag o (by simpa using aE)];assumption)
               · (rw [Ag o (by simpa using aE)];assumption)
               · (rw [Ag o (by simpa using aE)];assumption)
               · (rw [Ag o (by simpa using aE)];assumption)
               · (rw [Ag o (by simpa using aT)];assumption)
               · (rw [Ag o (by simpa using aD)];assumption)
               · (rw [Ag o (by simpa using aD)];assumption)
               · (rw [Ag o (by simpa using aD)];assumption)
               · (rw [Ag o (by simpa using aD)];assumption)))
          (first | (go_at_call 65;refine (V0 v (nth l k).f _).mono ?_;rintro e w4 ⟨rfl,o⟩))
         have ad:=aB.trans ((Ib o).mono (by have:=aB.size;simpa using this));have z:=s.trans (ad.mono s2);have x:=hp.below z aH aI;have r4:=Aa x.head 4;simp at r4;clear c0 c1 c2 c3 c4 x0 x1 x2 x3 q4;replace ⟨o,ad,z⟩:=H3 o ad z;by_cases hf:v.fits (nth l k).f=true
         .simp only [hf];replace ⟨hf,x⟩:=H2 hf x;go_wp2;go_roundw
          case rel=>
           refine ⟨k+1,rfl,by go_num,by omega,by omega,ad.out,?_⟩;intro j h1 h2;by_cases e:j=k
           .subst e;exact hf.out
           .exact am.out j h1 (by omega)
          case measure=>simp [intOf];omega
         .have al:v.fits (nth l k).f=false:=(by simpa using hf);simp only [al];replace al:=Hh al;clear hf;by_cases an:k+1=l.length
          .have aS:((k:Int)+1 == (l.length:Int))=true:=by rw [L0];omega
           have g:Iv l after q v 0 false:=by
            rw [n.out];refine .inr ⟨rfl,rfl,fun u h1 h2=>?_⟩;by_cases hu:u<T
            .exact ao.out u h1 hu
            .exact Agk hk aL al.out (by omega) (fun h=>by omega)
           replace ⟨g,x,an⟩:=H3 g x an;go_wp2;go_ret2;exact ⟨0,false,rfl,g.out,z.out⟩
          .have aS:((k:Int)+1 == (l.length:Int))=false:=(by rw [Bl];omega);have a2:(k:Int)+1<l.length:=(by omega);obtain ⟨d0,_,_,_,_⟩:=x.row.cells (i:=k+1) (by omega);have aN:=hl.last (k+1) (by omega)
           have aY:T<(nth l (k+1)).t:=by
            by_cases e:k=p
            .rw [e];exact y.2.2 (p+1) (by omega) (by omega)
            .have:=y.2.2 (k+1) (by omega) (by omega);exact this
           replace x:=Hh x;go_wp2;go_roundw
           case rel=>
            refine ⟨(nth l (k+1)).t,rfl,by omega,aN,ad.out,?_⟩;intro u h1 h2;by_cases hu:u<T
            .exact ao.out u h1 hu
            .exact Agk hk aL al.out (by omega) (fun _=>h2)
           case measure=>simp [intOf];omega
        .have aM:T+q<=(nth l k).t:=(by omega);have g:Iv l after q v T true:=(by rw [n.out];exact .inl ⟨rfl,aK,by omega,Agj hl.out y.out am.out (fun _=>aM),ao.out⟩);replace ⟨g,r,m⟩:=H3 g r m;go_wp2;go_ret2;exact ⟨T,true,rfl,g.out,m.out⟩
       .have aR:¬ (k:Int)<l.length:=(by omega);have g:Iv l after q v T true:=(by rw [n.out];exact .inl ⟨rfl,aK,by omega,Agj hl.out y.out am.out (fun h=>absurd h hk),ao.out⟩);replace ⟨g,r,m⟩:=H3 g r m;go_wp2;go_ret2;exact ⟨T,true,rfl,g.out,m.out⟩
     .have g:Iv l after q v 0 false:=(by rw [n.out];exact .inr ⟨rfl,rfl,fun u h1 h2=>ao.out u h1 (by omega)⟩);replace ⟨g,ap⟩:=H2 g ap;go_wp2;go_ret2;exact ⟨0,false,rfl,g.out,aA.out⟩
   .have hrel:Iv l after q v 0 false:=(by unfold Iv;rw [Ac (by omega)];exact ⟨rfl,rfl⟩);replace hrel:=Hh hrel;go_wp2;rw [Im];go_ret2;exact ⟨0,false,rfl,hrel.out,s.out⟩
  .have aO:v.right=false:=(by simpa using hr);rw [aO];have hrel:Iv l after q v 0 false:=(by unfold Iv;rw [Ac (fun h=>hr h.2.1)];exact ⟨rfl,rfl⟩);replace hrel:=Hh hrel;clear hr aO;go_wp2;rw [Im];go_ret2;exact ⟨0,false,rfl,hrel.out,s.out⟩
 .have hrel:Iv l after q v 0 false:=by unfold Iv;rw [Ac (by omega)];exact ⟨rfl,rfl⟩
  replace hrel:=Hh hrel;go_enter func287,ntmps287;go_wp2;go_step3;go_wp2;rw [Im];go_ret2;exact ⟨0,false,rfl,hrel.out,Bn⟩
def Aax (whole:V4) (w:WD) (e:Ending) (w':WD):Prop:=
 (whole.right=false/\e=.returned (.pointer none)/\BW w.heap.size w w') \/
  (whole.right=true/\∃ pb sb,e=.returned (.pointer (some ⟨pb,0,none⟩))/\Ci w' pb sb 1 whole [⟨0,whole⟩]/\w.heap.size<=pb/\w.heap.size<=sb/\BW w.heap.size w w')
def Aay (whole:V4) (w:WD):CS prog 273 #[whole.val] w (Aax whole w):=by
 go_enter func273,ntmps273;go_wp2_with fail;refine (I5 whole _).mono ?_;rintro e f ⟨rfl,b⟩;have a:=Bn.trans (b.mono (by simp));have c:=Ae b (Ah _ _) (by simp);have h:=Aa c 0;have i:=Aa c 1;have j:=Aa c 2;have k:=Aa c 3;simp at h i j k;have g:=a.size;replace ⟨a,b,c⟩:=H3 a b c;cases d:whole.right
 .replace d:=Hh d;go_wp2;go_ret;exact .inl ⟨d.out,rfl,a.out⟩
 .replace d:=Hh d;go_wp2;go_ret;refine .inr ⟨d.out,f.heap.size+1,f.heap.size,rfl,⟨?_,⟨by simp,by decide,(⟨0,whole⟩:St).cells.toArray,?_,rfl,rfl⟩,by omega⟩,by omega,by omega,?_⟩
  .exact A3 _ _ (by simp)
  .exact Aj _ (Ah _ _)
  .exact (a.alloc g _).alloc (by simp;omega) _
