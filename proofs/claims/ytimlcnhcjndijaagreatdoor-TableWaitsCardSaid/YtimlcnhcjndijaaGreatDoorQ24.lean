/- Parts PlCut, PlCompf, PlChg, PlChgw, PlFree, PlMost, PlTake, PlEarly, PlClone. Plain theorems: no condition. -/
import Derived.Test.YtimlcnhcjndijaaGreatDoorQ02
import Derived.Deep.RegionHeld3
import Derived.Deep.AppendLies
import Derived.Deep.RegionLawGrows
import Derived.Lib.SmallJoins
set_option linter.all false
set_option maxRecDepth 100000
set_option maxHeartbeats 1600000
namespace Go.Proofs.YtimlcnhcjndijaaGreatDoor.Pl
open Go.RowKit
def V0:(Tryz.prog.info? 398).map (fun i=>(i.zero,i.size,i.bytes))=some (some (.agg #[.int .i64 0,.int .i64 0,.int .i64 0,.int .i64 0,.int .i64 0]),5,40):=by kernel_rfl
structure Mod (S:Nat->Prop) (w w':World):Prop where
 os:w'.os=w.os
 tape:w'.tape=w.tape
 output:w'.output=w.output
 size:w.heap.size<=w'.heap.size
 block:∀ k,k<w.heap.size->¬ S k->w'.heap[k]?=w.heap[k]?
def Ki (l:List St) (k:Nat) (t:Int):List St:=l.take (k+1)++⟨t,(nth l k).f⟩ :: l.drop (k+1)
def Adm (pb sb cap:Nat) (whole:V4) (l:List St) (t:Int) (w:World) (e:Ending) (w':World):Prop:=
 ∃ (n k sb' cap':Nat) (l':List St),e=.returned (.int .i64 n)/\Kh l t k/\(((nth l k).t=t/\l'=l/\n=k/\sb'=sb/\cap'=cap)\/((nth l k).t≠t/\l'=Ki l k t/\n=k+1/\w.heap.size<=sb')) /\
  Cg w' pb sb' cap' whole l'/\Mod (·=pb) w w'
def An2 (w:World) (B:Nat) (s:St) (a:B<=w.heap.size):(w.alloc (.cells s.cells.toArray 398)).ownsRow B 398 5 (.slice (some ⟨w.heap.size,0,none⟩) 1 1) 1 s.cells:=
 ⟨rfl,.inr ⟨w.heap.size,1,s.cells.toArray,rfl,a,heap_alloc_new w _,Nat.le_refl _,by decide,rfl,rfl⟩⟩
def Row.tail {w:World} {a cap:Nat} {l:List St} (h:Row w a cap l) (n:Nat) (f:n<=l.length):∀ (j:Nat) (u:Value),(Bf (l.drop n))[j]?=some u->w.cell? ((⟨a,n*5,none⟩:Addr).add j)=some u:=by
 intro j u d;have g:=(Aq.1 d).1;rw [N5,G7] at g
 have e:(⟨a,n*5,none⟩:Addr).add j=⟨a,n*5+j,none⟩:=by unfold Addr.add;split<;>simp_all
 have b:Bf l=Bf (l.take n)++Bf (l.drop n):=by rw [<- Y5,Sw]
 obtain ⟨c,i,o,k⟩:=h.aq;rw [e,Aa i]
 have:(Bf l)[n*5+j]?=c[n*5+j]?:=by rw [<- k,Lq,Ad (by omega)];simp
 rw [<- this,b,G5 (by rw [N5,Ff];omega),N5,Ff];have m:n*5+j-min n l.length*5=j:=by rw [Mu f];omega
 rw [m];exact d
def Row.front {w:World} {a cap:Nat} {l:List St} (h:Row w a cap l) (n:Nat) (k:n<=l.length):∀ (j:Nat) (u:Value),(Bf (l.take n))[j]?=some u->w.cell? ((⟨a,0,none⟩:Addr).add j)=some u:=by
 intro j u d;have f:=(Aq.1 d).1;rw [N5,Ff] at f
 have e:(⟨a,0,none⟩:Addr).add j=⟨a,j,none⟩:=by unfold Addr.add;split<;>simp_all
 have b:Bf l=Bf (l.take n)++Bf (l.drop n):=by rw [<- Y5,Sw]
 obtain ⟨c,g,m,i⟩:=h.aq;rw [e,Aa g]
 have:(Bf l)[j]?=c[j]?:=by rw [<- i,Lq,Ad (by omega)];simp
 rw [<- this,b,Fv (by rw [N5,Ff];omega)];exact d
def Adn (l:List St):∀ u∈Bf l,u.oneCell'=true:=by
 intro u a;simp only [Bf,List.mem_flatMap] at a;obtain ⟨s,_,b⟩:=a;simp [St.cells] at b
 rcases b with rfl | rfl | rfl | rfl | rfl<;>rfl
def An3 {P:Program} {q:Array Oper} {o:Oper} {a:Act} {w:World} {K:Act->World->Prop} {Q:Exit->Act->World->Prop} {E:Prop} (y:o.guard=none) (s x:Operand) (t:TypeId)
  (ho:o.op=.call { callee:=.builtin .append,args:=#[s,x],argTypes:=#[t,t] })
  (base:Nat) (e:TypeId) (i:TypeInfo) (z:Value) (size d:Nat) (ht:P.underlying t=some (.slice e)) (hi:P.info? e=some i) (hz:i.zero=some z)
  (k:i.size=size) (ac:i.bytes=d) (al:z.cells.size=size) (am:0<size)
  (v:Value) (n:Nat) (xs:List Value) (hs:a.eval s=v) (r:w.ownsRow base e size v n xs)
  (ad:Addr) (m c:Nat) (b:List Value) (hx:a.eval x=.slice (some ad) m c) (hl:b.length=m*size) (l:∀ j u,b[j]?=some u->w.cell? (ad.add j)=some u) (h1:∀ u∈b,u.oneCell'=true)
  (hn:0<n) (an:n+m<=maxLen) (f:(n+m)*d<=140737488355328) (p:base<=w.heap.size)
  (h:∀ g cap w',w'.ownsRow base e size (.slice (some ⟨g,0,none⟩) (n+m) cap) (n+m) (xs++b)->w.grownBy w' v.ownBlock->K (a.put o.dst (.slice (some ⟨g,0,none⟩) (n+m) cap)) w') :
  if Region.wanted o (yielded q a.tmps)=true then Oper.wp P o a w K Q else E:=by
 have hw:Region.wanted o (yielded q a.tmps)=true:=by simp [Region.wanted,y]
 rw [Ad hw]
 exact wp_append_own w s x t ho base e i z size d ht hi hz k ac al am v n xs hs r ad m c b hx hl l h1 an f p fun v' w' h2 h3 _=>by
  obtain ⟨g,cap,rfl⟩:=Joins.ownsRow_form h2 (by omega);exact h g cap w' h2 h3
def Y6 (l:List St) (k:Nat) (t:Int) (a:k<l.length):(Ki l k t).length=l.length+1:=by
 simp [Ki];omega
def An4 (l:List St) (k:Nat) (t:Int):Bf (Ki l k t)=Bf (l.take (k+1))++((⟨t,(nth l k).f⟩:St).cells++Bf (l.drop (k+1))):=by
 simp [Ki,Bf]
def Row.rf {w:World} {base g cap n:Nat} {l:List St} {xs:List Value} (h:w.ownsRow base 398 5 (.slice (some ⟨g,0,none⟩) n cap) n xs) (c:n=l.length) (d:xs=Bf l):Row w g cap l/\base<=g:=by
 obtain ⟨_,h | ⟨p,b,a,e,f,i,j,k,m,o⟩⟩:=h
 .cases h.1
 .cases e;subst c;refine ⟨⟨j,?_,a,i,m,o.trans d⟩,f⟩;simpa only [maxLen] using k
def Mod.af {S:Nat->Prop} {w w':World} (h:Below w.heap.size w w'):Mod S w w':=⟨h.os,h.tape,h.output,h.size,fun k a _=>h.block k a⟩
def Mod.refl (S:Nat->Prop) (w:World):Mod S w w:=⟨rfl,rfl,rfl,Nat.le_refl _,fun _ _ _=>rfl⟩
def Mod.trans {S:Nat->Prop} {w w1 b:World} (h:Mod S w w1) (a:Mod (fun k=>S k\/w.heap.size<=k) w1 b):Mod S w b:=
 ⟨a.os.trans h.os,a.tape.trans h.tape,a.output.trans h.output,A6 h.size a.size,fun k d e=>(a.block k (Br d h.size) (fun c=>by rcases c with c | c;exact e c;omega)).trans (h.block k d e)⟩
def Mod.mono {S S':Nat->Prop} {w w':World} (h:Mod S w w') (b:∀ k,k<w.heap.size->S k->S' k):Mod S' w w':=⟨h.os,h.tape,h.output,h.size,fun k a d=>h.block k a fun c=>d (b k a c)⟩
def Mod.setCell {S:Nat->Prop} (w:World) (b o:Nat) (v:Value) (a:S b):Mod S w (w.setCell ⟨b,o,none⟩ v):=
 ⟨rfl,rfl,rfl,by simp [World.setCell],fun k _ c=>Cd _ _ _ _ (fun e=>c (by simpa [e] using a))⟩
def Mod.grown {S:Nat->Prop} {w w':World} {row:Option Nat} (h:w.grownBy w' row) (a:∀ k,row=some k->S k):Mod S w w':=
 ⟨h.os,h.tape,h.output,h.size,fun k b c=>h.block k b fun e=>c (a k e.symm)⟩
def Mod.alloc (S:Nat->Prop) (w:World) (o:Obj):Mod S w (w.alloc o):=Mod.af Bn
def Mod.drew {S:Nat->Prop} {w w':World} (h:Mod S w w'):Mod S w w'.drew:=⟨h.os,h.tape,h.output,h.size,h.block⟩
def An5 {g v cap:Nat} {whole:V4} {l:List St} {t:Int} {w d p q:World} {k m r c:Nat} {X:Obj} {x y:Nat}
  (j:Below w.heap.size w d) (_hpb:g<w.heap.size) (n:Cg d g v cap whole l) (s:Kh l t k) (z:(nth l k).t≠t) (hm:m=l.length-(k+1))
  (a:(d.alloc X).drew.grownBy p (Value.slice (some ⟨d.heap.size,0,none⟩) x y).ownBlock) (b:p.grownBy q none)
  (i:q.ownsRow p.heap.size 398 5 (.slice (some ⟨r,0,none⟩) (k+1+(1+m)) c) (k+1+(1+m)) (Bf (l.take (k+1))++((⟨t,(nth l k).f⟩:St).cells++Bf (l.drop (k+1)))))
  {e:Ending} (he:e=.returned (.int .i64 ((k:Int)+1))) :
  Adm g v cap whole l t w e (q.setCell ⟨g,4,none⟩ (.slice (some ⟨r,0,none⟩) (k+1+(1+m)) c)):=by
 have u:=s.1;have h:k+1+(1+m)=(Ki l k t).length:=by rw [Y6 l k t u];omega
 obtain ⟨ak,hg⟩:=Row.rf i h (An4 l k t).symm;have o:=Ab n.head;have s1:d.heap.size<(d.alloc X).drew.heap.size:=by simp
 have s2:=a.size;have s3:=j.size;have b3:=(a.block g (by omega) (by simp [Value.ownBlock];omega)).trans (Gs d X g o);have b4:=b.block g (by omega) (by simp);refine ⟨k+1,k,r,c,Ki l k t,by rw [he];simp,s,.inr ⟨z,rfl,rfl,by omega⟩,⟨?_,?_,by omega⟩,?_⟩
 .rw [Al ((b4.trans b3).trans n.head)];simp [h]
 .exact ak.of_block (Cd _ _ _ _ (show r≠g by omega))
 .refine Mod.trans (w1:=d) (Mod.af j) ?_;refine Mod.trans (w1:=q) ?_ (Mod.setCell _ _ _ _ (.inl (.inl rfl)));refine Mod.trans (w1:=p) ?_ (Mod.grown b (by simp));refine Mod.trans (w1:=(d.alloc X).drew) (Mod.drew (Mod.alloc _ _ _)) (Mod.grown a ?_);intro k s;simp [Value.ownBlock] at s;omega
def An6 (q d cap:Nat) (whole:V4) (l:List St) (t:Int) (w:World) (y:Cg w q d cap whole l) (hl:Cb l) (h3:0<=t) (h4:t<=1099511627776) :
  Calls Tryz.prog 315 #[.pointer (some ⟨q,0,none⟩),.int .i64 t] w (Adm q d cap whole l t w):=by
 have aI:=hl.len;replace ⟨y,hl⟩:=H2 y hl;obtain ⟨i0,z,ap,al,av⟩:=C0 V0;go_enter Tryz.func315,Tryz.ntmps315;go_wp2_with fail;refine (Vz q d cap whole l t w y.out hl.out h3 h4).mono ?_;rintro e n ⟨k,rfl,hk,r⟩;have a:Cg n q d cap whole l:=⟨Ae r y.out.head (Ab y.out.head),y.out.row.below r y.out.row.lt,y.out.ne⟩;have aC:=hk.1;have aJ:(k:Int)<l.length:=by omega
 replace ⟨hk,r⟩:=H2 hk r;have p4:=Aa a.head 4;have pf:=Ah a.head 4;simp at p4;obtain ⟨c0,c1,c2,c3,c4⟩:=a.row.cells aC;have aK:=a.row.le;have aD:=a.row.max;have lp:=Ab a.head;have ls:=a.row.lt;replace a:=Hh a;by_cases ht:(nth l k).t=t
 .have aE:((nth l k).t == t)=true:=by simpa using ht
  replace ht:=Hh ht;go_wp2;go_ret;exact ⟨k,k,d,cap,l,rfl,hk.out,.inl ⟨ht.out,rfl,rfl,rfl,rfl⟩,a.out,Mod.af r.out⟩
 .have aE:((nth l k).t == t)=false:=by simpa using ht
  replace ht:=Hh ht;go_wp2_with fail;have aF:=Ann (i:=i0) Lr z d l.length cap (k+1) ((k:Int)+1) (by omega) (by omega);obtain ⟨ta,m,mc,aG,ac,hm⟩:∃ ta m mc,(∀ w,(Instr.slice 361 (.slice (some ⟨d,0,none⟩) l.length cap) (some (.int .i64 ((k:Int)+1))) none none).run Tryz.prog w=.ok (.slice (some ta) m mc) w)/\(k+1<cap->ta=⟨d,(k+1)*i0.size,none⟩)/\Hid (m=l.length-(k+1)):=by obtain ⟨ta,h1,h2⟩:=S7 (i:=i0) Lr z d l.length cap (k+1) ((k:Int)+1) (by omega) (by omega);exact ⟨ta,_,_,h1,h2,rfl⟩
  rw [al] at ac;replace ac:=Hh ac;have aH:=hm.out;have q1:=Hh (show (Bf (l.drop (k+1))).length=m*5 by rw [N5,G7,hm.out])
  have q2:Hid (∀ j u,(Bf (l.drop (k+1)))[j]?=some u->((n.alloc (.cells (⟨t,(nth l k).f⟩:St).cells.toArray 398)).drew).cell? (ta.add j)=some u):=by
   have h:=a.out.row.tail (k+1) (by omega);intro j u hu;have hj:=(Aq.1 hu).1;rw [N5,G7] at hj;have h2:=h j u hu;rw [ac.out (by omega)];refine (Bp (w:=n) ?_).trans h2
   have e:((⟨d,(k+1)*5,none⟩:Addr).add j).block=d:=by unfold Addr.add;split<;>rfl
   rw [e];exact Gs n _ d ls
  have q3:=Hh (show 1+m<=maxLen by simp only [maxLen];omega);have q4:=Hh (show (1+m)*40<=140737488355328 by omega);have q6:=Hh (show (Bf (l.take (k+1))).length=(k+1)*5 by rw [N5,Ff,Mu (by omega)]);have q7:=Hh (a.out.row.front (k+1) (by omega));clear aH;have ad:=By;have s:q<(n.alloc (.cells (⟨t,(nth l k).f⟩:St).cells.toArray 398)).drew.heap.size:=by simp;omega
  have am:d<(n.alloc (.cells (⟨t,(nth l k).f⟩:St).cells.toArray 398)).drew.heap.size:=by simp;omega
  have v:some q≠(Value.slice (some ⟨n.heap.size,0,none⟩) 1 1).ownBlock:=by simp [Value.ownBlock];omega
  have an:some d≠(Value.slice (some ⟨n.heap.size,0,none⟩) 1 1).ownBlock:=by simp [Value.ownBlock];omega
  replace ⟨s,am,v,an⟩:=H4 s am v an;go_region_law
    (first
      | (have _t:=ad;refine An3 (by rfl) _ _ _ (by rfl) (n.heap.size) 398 i0 _ 5 40 Lr z ap al av rfl (by omega) _ 1 ((⟨t,(nth l k).f⟩:St).cells) (by rfl) ((An2 n n.heap.size ⟨t,(nth l k).f⟩ Ln).drew)
          ta m mc (Bf (l.drop (k+1))) (by rfl) q1.out q2.out (Adn _) (by omega) q3.out q4.out (by simp) ?_
         intro g aA w3 p c;have aM:w3.cell? ⟨q,4,none⟩=some (.slice (some ⟨d,0,none⟩) l.length cap):=by rw [c.cell_far _ s.out v.out,Bp (w:=n) (Gs n _ q lp)];exact p4
         clear ad)
      | (have _t:=p;have hg:=c.size
         have aB:q<w3.heap.size:=by have:=s.out;simp at this hg;omega
         have s1:∀ b,some (⟨d,0,none⟩:Addr)=some b->∀ j u,(Bf (l.take (k+1)))[j]?=some u->w3.cell? (b.add j)=some u:=by
           intro b hb j u hu;cases hb;have h1:=q7.out j u hu
           have ao:((⟨d,0,none⟩:Addr).add j).block=d:=by unfold Addr.add;split<;>rfl
           rw [c.cell_far _ (by rw [ao];exact am.out) (by rw [ao];exact an.out)];rw [Bp (w:=n) (by rw [ao];exact Gs n _ d ls)];exact h1
         have s2:∀ u∈(⟨t,(nth l k).f⟩:St).cells++Bf (l.drop (k+1)),u.oneCell'=true:=by
           intro u hu;rcases Dt.1 hu with h | h
           · simp [St.cells] at h
             rcases h with rfl | rfl | rfl | rfl | rfl<;>rfl
           · exact Adn _ u h
         have s3:k+1<k+1+(1+m):=(by omega);have s4:k+1+(1+m)<=maxLen:=(by have:=hm.out;simp only [maxLen];omega);have s5:(k+1+(1+m))*40<=140737488355328:=(by have:=hm.out;omega);replace ⟨s1,s2⟩:=H2 s1 s2;refine step_append_grows (by rfl) _ _ _ (by rfl) 398 i0 _ 5 40 Lr z ap al av rfl (by omega) (some ⟨d,0,none⟩) (k+1) (k+1) (Bf (l.take (k+1))) (by rfl) (by simp) q6.out s1.out ⟨g,0,none⟩ (1+m) aA _ (by rfl) p.1 (p.cells rfl) s2.out s3 s4 s5 ?_;intro v3 w4 x o;obtain ⟨g3,aL,rfl⟩:=Joins.ownsRow_form x (by omega);have aN:w4.frozen? ⟨q,4,none⟩=false:=(by rw [o.frozen_far _ aB (by simp),c.frozen_far _ s.out v.out,Ok (w:=n) (Gs n _ q lp)];exact pf);have aO:w4.cell? ⟨q,4,none⟩=some (.slice (some ⟨d,0,none⟩) l.length cap):=by rw [o.cell_far _ aB (by simp),c.cell_far _ s.out v.out,Bp (w:=n) (Gs n _ q lp)];exact p4
         clear s4 s5 s3))
  all_goals
   clear aF aG;go_wp2;go_ret;exact An5 r.out (Ab y.out.head) a.out hk.out ht.out hm.out c o x rfl
def Aod {z:Array Value} {n:Nat} (h1:∀ v∈z,v.oneCell'=true) (c:0<z.size):∀ v∈(Builtin.zeroCells z n).toList,v.oneCell'=true:=by
 intro v b;simp [Builtin.zeroCells] at b;obtain ⟨a,d,rfl⟩:=b;apply h1;have:a % z.size<z.size:=Nat.mod_lt _ c;rw [getElem!_pos z _ this];exact Array.getElem_mem _
def Aoe {w:World} {b cap:Nat} {M:List St} (h:Row w b cap M) (i:Nat) (u:i<=M.length) {ta:Addr} {m mc:Nat} (j:i<M.length->ta=⟨b,i*5,none⟩) (hm:m=M.length-i) :
  ∃ w',(∀ l,(Builtin.clear_ #[361] l #[.slice (some ta) m mc]).run Tryz.prog w=.ok (.tuple #[]) w')/\Row w' b cap (M.take i)/\Mod (·=b) w w':=by
 obtain ⟨h1,x,a,o,hs,y⟩:=h
 have p:Bf (M.take i)=(Bf M).take (i*5):=by
  have:Bf M=Bf (M.take i)++Bf (M.drop i):=by rw [<- Y5,Sw]
  rw [show (Bf M).take (i*5)=(Bf (M.take i)++Bf (M.drop i)).take (i*5) by rw [<- this]];have e1:i*5=(Bf (M.take i)).length:=by rw [N5,Ff,Mu u]
  rw [e1,List.take_left]
 by_cases q:i<M.length
 .obtain ⟨e,rfl⟩:∃ e,m=e+1:=⟨m-1,by omega⟩;have f:=j q;obtain ⟨Z,r⟩:=Ex ((Builtin.zeroCells #[.int .i64 0,.int .i64 0,.int .i64 0,.int .i64 0,.int .i64 0] (e+1)).toList);have g:∀ v∈Z,v.oneCell'=true:=by rw [r];exact Aod (z:=#[.int .i64 0,.int .i64 0,.int .i64 0,.int .i64 0,.int .i64 0]) (n:=e+1) (by intro v hv;simp at hv;subst hv;rfl) (by decide)
  have c:Z.length=(e+1)*5:=by rw [r];simp [Builtin.zeroCells]
  have d:=run_storeCells_at (P:=Tryz.prog) b (i*5) 398 Z 0 a w o (by rw [c];omega) g;simp only [Nt] at d;obtain ⟨C,s⟩:=Ex ((a.toList.take (i*5)++Z++a.toList.drop (i*5+Z.length)).toArray);rw [<- s] at d;refine ⟨w.setRow b C,fun l=>?_,⟨?_,x,C,Dp w b a C 398 (0,0) o,?_,?_⟩,⟨rfl,rfl,rfl,by simp [World.setRow],fun k _ hk=>setRow_other w b k C hk⟩⟩
  .subst f;simp [Builtin.clear_,Mv Lr,Value.cells,<- r,d]
  .simp;omega
  .rw [s];simp only [List.size_toArray,De,c];simp;omega
  .rw [s];simp only [Ff,Mu u];rw [Ku,List.take_append_of_le_length (by simp;omega),List.take_take,Nat.min_self,p,<- y,List.take_take];congr 1;omega
 .have:i=M.length:=by omega
  subst this;have t:m=0:=by omega
  subst t;refine ⟨w,fun l=>?_,⟨by simpa using h1,x,a,o,hs,by simpa using y⟩,Mod.refl _ _⟩;simp [Builtin.clear_,Mv Lr]
def Ado (s u:St) (w:World) :
  Calls Tryz.prog 317 #[s.val,u.val] w fun e w'=>e=.returned (.bool (decide (s.f=u.f)))/\Below w.heap.size w w':=by
 have a:=Aoc s.f u.f;go_enter Tryz.func317,Tryz.ntmps317;go_wp2;go_ret;exact ⟨rfl,Bn.alloc (by simp) _⟩
def Aof {P:Program} {t e:TypeId} {i:TypeInfo} (d:P.underlying t=some (.slice e)) (f:P.info? e=some i) (b a cap n:Nat) (x:Int) (g:x=n) (j:n<=cap) (w:World) :
  (Instr.slice t (.slice (some ⟨b,0,none⟩) a cap) none (some (.int .i64 x)) none).run P w=.ok (.slice (some ⟨b,0,none⟩) n cap) w:=by
 subst g
 have h1:∀ (y:Nat) (_:n<=y) c,(Instr.sliceBound (.int .i64 (n:Int)) y c).run P w=.ok n w:=fun y h c=>by
  simp [Instr.sliceBound,asIntOf,h]
 simp [Instr.slice,Instr.sliceBounds,Mv d,h1 cap j,sizeOf,typeInfo,f,Addr.add]
def Row.free {w:World} {a cap:Nat} {l:List St} (h:Row w a cap l) (o:Nat):w.frozen? ⟨a,o,none⟩=false:=by
 obtain ⟨_,_,b,h1,_⟩:=h;exact Ah h1 o
def Gx {B:Nat} {w w':World} (h:Below B w.drew w'):Below B w w':=⟨h.os,h.tape,h.output,h.size,h.block⟩
def V2 (sb cap:Nat) (l:List St) (w:World) (e:Ending) (w':World):Prop:=
 e=.returned (.slice (some ⟨sb,0,none⟩) (B7 l).length cap)/\Row w' sb cap (B7 l)/\Mod (·=sb) w w'
def Aog (l:List St):(B7 l).length<=l.length:=by
 have a:∀ (l:List St) p,(Fo p l).length<=l.length:=by
  intro l
  induction l with
  | nil=>intro p;simp [Fo]
  | cons s r ih=>
   intro p;simp only [Fo];split;· have:=ih s.f;simp;omega
   .have:=ih s.f;simp;omega
 cases l with
 | nil=>simp [B7]
 | cons s r=>have:=a r s.f;simp [B7];omega
def Adp (n cap:Nat) (l:List St) (w:World) (hr:Row w n cap l) (aT:l.length<=2199023255552) :
  Calls Tryz.prog 316 #[.slice (some ⟨n,0,none⟩) l.length cap,.func (.func 317) #[] #[]] w (V2 n cap l w):=by
 obtain ⟨i0,aF,aV,aH,aW⟩:=C0 V0;have aU:=hr.le;have aO:=hr.lt;replace hr:=Hh hr;go_enter Tryz.func316,Tryz.ntmps316;by_cases h2:l.length<2
 .have aP:(l.length:Int)<2:=by omega
  go_wp2;go_ret
  have e:B7 l=l:=by
   have:=Y9 l l.length Ln (fun i h0 h1=>by omega)
   rwa [Dn Ln] at this
  unfold V2;rw [e];exact ⟨rfl,hr.out,Mod.refl _ _⟩
 .have aP:¬ (l.length:Int)<2:=by omega
  go_wp2;go_loopw [5,6,7] (fun i _ _ wr=>∃ a:Nat,a+1<=l.length/\i=.int .i64 ((a:Int)+1)/\Below w.heap.size w wr/\Hid (∀ k,0<k->k<a+1->(nth l k).f≠(nth l (k-1)).f)) (fun i _ _ _=>l.length-(intOf i).toNat)
  case atStart=>exact ⟨0,by omega,rfl,Below.refl _ _,by intro k h1 h2;omega⟩
  case round=>
   obtain ⟨a,ha,rfl,hB,hk⟩:=hrel;have r:=hr.out.below hB aO;by_cases aX:a+1<l.length
   .have aI:(a:Int)+1<l.length:=(by omega);obtain ⟨c0,c1,c2,c3,c4⟩:=r.cells (i:=a) (by omega);obtain ⟨d0,d1,d2,d3,d4⟩:=r.cells (i:=a+1) (by omega);have aY:=hB.size;have aJ:n<wr.heap.size:=(by omega);replace ⟨hB,r⟩:=H2 hB r;have e1:IntKind.i64.wrap ((a:Int)+1-1)=(a:Int):=(by rw [Gt _ (by omega)];omega);have e6:IntKind.i64.wrap (a:Int)=(a:Int):=(by rw [Gt _ (by omega)]);have e2:(0:Int)<=(a:Int)+1:=(by omega);have e3:((a:Int)+1).toNat=a+1:=(by omega);have e4:(a:Int)<l.length:=(by omega);have e5:(0:Int)<=(a:Int):=(by omega);go_wp2_with fail
    go_region_held3 (fun w'=>w'.cell? ⟨n,a*5,none⟩=some (.int .i64 (nth l a).t)/\w'.cell? ⟨n,a*5+1,none⟩=some (.int .i64 (nth l a).f.a)/\w'.cell? ⟨n,a*5+2,none⟩=some (.int .i64 (nth l a).f.b)/\w'.cell? ⟨n,a*5+3,none⟩=some (.int .i64 (nth l a).f.c)/\w'.cell? ⟨n,a*5+4,none⟩=some (.int .i64 (nth l a).f.d) /\
     w'.cell? ⟨n,(a+1)*5,none⟩=some (.int .i64 (nth l (a+1)).t)/\w'.cell? ⟨n,(a+1)*5+1,none⟩=some (.int .i64 (nth l (a+1)).f.a)/\w'.cell? ⟨n,(a+1)*5+2,none⟩=some (.int .i64 (nth l (a+1)).f.b)/\w'.cell? ⟨n,(a+1)*5+3,none⟩=some (.int .i64 (nth l (a+1)).f.c)/\w'.cell? ⟨n,(a+1)*5+4,none⟩=some (.int .i64 (nth l (a+1)).f.d))
     (first
       | go_keep
       | (go_split_ands
          refine ⟨?_,?_,?_,?_,?_,?_,?_,?_,?_,?_⟩<;>(rw [Ag s (by simpa using aJ)];assumption)))
     (first | (go_at_call 317;refine (Ado (nth l (a+1)) (nth l a) _).mono ?_;rintro e w2 ⟨rfl,s⟩))
    clear c0 c1 c2 c3 c4 d0 d1 d2 d3 d4 e1 e2 e3 e6;by_cases hf:(nth l (a+1)).f=(nth l a).f
    .have hd:decide ((nth l (a+1)).f=(nth l a).f)=true:=(by simpa using hf);rw [hd];clear hd;replace hf:=Hh hf;obtain ⟨ta,aK,aQ⟩:=S7 (i:=i0) Lr aF n l.length cap (a+1) ((a:Int)+1) (by omega) (by omega);obtain rfl:=aQ (by omega);rw [aH] at aK;obtain ⟨m,hm⟩:=Ex (l.length-(a+1));rw [<- hm] at aK;have aZ:m<=2199023255552:=(by omega);replace hm:=Hh hm;have v:=r.out.below (Gx s) (by simpa using aJ);have x:Mod (·=n) w w2:=(Mod.af hB.out).trans (Mod.af (Gx s));replace ⟨v,x,s⟩:=H3 v x s;go_wp2;go_loopw [5,7] (fun i j wr=>∃ (d b:Nat) (M:List St),d+1<=m/\j=.int .i64 ((d:Int)+1)/\i=.int .i64 b/\Hid (M.length=l.length)/\b<=a+1+d/\Hid (b=(B7 (l.take (a+1+(d+1)))).length)/\Hid (M.take b=B7 (l.take (a+1+(d+1))))/\Hid (∀ k,a+1+d<=k->nth M k=nth l k)/\Hid (Row wr n cap M)/\Hid (Mod (·=n) w wr)) (fun _ j _=>m-(intOf j).toNat)
     case atStart=>
      have hc:=Y9 l (a+1) (by omega) hk.out;have aL:B7 (l.take (a+1+1))=l.take (a+1):=(by rw [Y8 l (a+1) (by omega) (by omega),hc,Ad (by rw [Nat.add_sub_cancel];exact hf.out),Ps]);refine ⟨0,a+1,l,by have:=hm.out;omega,rfl,by simp,rfl,by omega,?_,?_,fun k _=>rfl,v.out,x.out⟩
      .show a+1=(B7 (l.take (a+1+(0+1)))).length;simp only [D2];rw [aL];simp;omega
      .show l.take (a+1)=B7 (l.take (a+1+(0+1)));simp only [D2];rw [aL]
     case round=>
      obtain ⟨d,b,M,a0,rfl,rfl,av,a1,am,aA,aB,an,aC⟩:=hrel;have ao:=hm.out;have al:=av.out;by_cases hd:d+1<m
      .have aR:(d:Int)+1<m:=(by omega);have aD:=an.out.lt;obtain ⟨c0,c1,c2,c3,c4⟩:=an.out.cells (i:=a+1+d) (by omega);obtain ⟨d0,d1,d2,d3,d4⟩:=an.out.cells (i:=a+1+(d+1)) (by omega);simp only [Kx (a+1) d 5,Kx (a+1) (d+1) 5] at c0 c1 c2 c3 c4 d0 d1 d2 d3 d4;have e1:IntKind.i64.wrap ((d:Int)+1-1)=(d:Int):=(by rw [Gt _ (by omega)];omega);have e6:IntKind.i64.wrap (d:Int)=(d:Int):=(by rw [Gt _ (by omega)]);have e2:(0:Int)<=(d:Int)+1:=(by omega);have e3:((d:Int)+1).toNat=d+1:=(by omega);have e4:(d:Int)<m:=(by omega);have e5:(0:Int)<=(d:Int):=(by omega);clear ao al;go_wp2_with fail;go_region_held3 (fun w'=>w'.cell? ⟨n,(a+1)*5+d*5,none⟩=some (.int .i64 (nth M (a+1+d)).t)/\w'.cell? ⟨n,(a+1)*5+d*5+1,none⟩=some (.int .i64 (nth M (a+1+d)).f.a)/\w'.cell? ⟨n,(a+1)*5+d*5+2,none⟩=some (.int .i64 (nth M (a+1+d)).f.b)/\w'.cell? ⟨n,(a+1)*5+d*5+3,none⟩=some (.int .i64 (nth M (a+1+d)).f.c)/\w'.cell? ⟨n,(a+1)*5+d*5+4,none⟩=some (.int .i64 (nth M (a+1+d)).f.d)/\w'.cell? ⟨n,(a+1)*5+(d+1)*5,none⟩=some (.int .i64 (nth M (a+1+(d+1))).t)/\w'.cell? ⟨n,(a+1)*5+(d+1)*5+1,none⟩=some (.int .i64 (nth M (a+1+(d+1))).f.a)/\w'.cell? ⟨n,(a+1)*5+(d+1)*5+2,none⟩=some (.int .i64 (nth M (a+1+(d+1))).f.b)/\w'.cell? ⟨n,(a+1)*5+(d+1)*5+3,none⟩=some (.int .i64 (nth M (a+1+(d+1))).f.c)/\w'.cell? ⟨n,(a+1)*5+(d+1)*5+4,none⟩=some (.int .i64 (nth M (a+1+(d+1))).f.d))
        (first
          | go_keep
          | (go_split_ands
             refine ⟨?_,?_,?_,?_,?_,?_,?_,?_,?_,?_⟩<;>(rw [Ag y (by simpa using aD)];assumption)))
        (first | (go_at_call 317;refine (Ado (nth M (a+1+(d+1))) (nth M (a+1+d)) _).mono ?_;rintro e w3 ⟨rfl,y⟩))
       clear c0 c1 c2 c3 c4 d0 d1 d2 d3 d4 e1 e2 e3 e6;have g:=an.out.below (Gx y) (by simpa using aD);have o:=aC.out.trans (Mod.af (Gx y));have hx:nth M (a+1+(d+1))=nth l (a+1+(d+1)):=aB.out _ (by omega);have hy:nth M (a+1+d)=nth l (a+1+d):=aB.out _ (by omega);replace ⟨hx,hy⟩:=H2 hx hy;have q:=Y8 l (a+1+(d+1)) (by omega) (by have:=hm.out;omega);replace q:=Hh q;by_cases u:(nth M (a+1+(d+1))).f=(nth M (a+1+d)).f
       .have ap:decide ((nth M (a+1+(d+1))).f=(nth M (a+1+d)).f)=true:=(by simpa using u);simp only [ap,Bool.not_true];clear ap;have p:=q.out;rw [Ad (by rw [<- hx.out,show a+1+(d+1)-1=a+1+d by omega,<- hy.out];exact u),Ps] at p;replace ⟨p,u,y,g,o⟩:=H5 p u y g o;go_wp2;go_roundw
        case rel=>
         refine ⟨d+1,b,M,by omega,by go_num,rfl,av,by omega,?_,?_,fun k hk=>aB.out k (by omega),g.out,o.out⟩
         .show b=(B7 (l.take (a+1+(d+1)+1))).length;rw [p.out];exact am.out
         .show _=B7 (l.take (a+1+(d+1)+1));rw [p.out];exact aA.out
        case measure=>simp [intOf];omega
       .have ap:decide ((nth M (a+1+(d+1))).f=(nth M (a+1+d)).f)=false:=(by simpa using u);simp only [ap,Bool.not_false];clear ap;have p:=q.out;rw [Ac (by rw [<- hx.out,show a+1+(d+1)-1=a+1+d by omega,<- hy.out];exact u)] at p;replace ⟨p,u⟩:=H2 p u;have al:=av.out;have ao:=hm.out;obtain ⟨d0,d1,d2,d3,d4⟩:=g.cells (i:=a+1+(d+1)) (by omega);simp only [Kx (a+1) (d+1) 5] at d0 d1 d2 d3 d4;obtain ⟨c0,c1,c2,c3,c4⟩:=g.cells (i:=b) (by omega);have ff:=g.free;have e7:(b:Int)<l.length:=(by omega);clear al ao;replace ⟨y,g,o⟩:=H3 y g o;go_wp2;go_roundw
        case rel=>
         have al:=av.out;have ao:=hm.out;have aM:=g.out.ki b (nth M (a+1+(d+1))) (by omega);refine ⟨d+1,b+1,M.set b (nth M (a+1+(d+1))),by omega,by go_num,by go_num,by show (M.set _ _).length=_;rw [Dg];exact al,by omega,?_,?_,?_,aM,?_⟩
         .show b+1=(B7 (l.take (a+1+(d+1)+1))).length;rw [p.out,De,<- am.out];rfl
         .show (M.set b _).take (b+1)=B7 (l.take (a+1+(d+1)+1));rw [p.out,<- aA.out,<- hx.out];rw [To _ b (by rw [Dg];omega),Y7 _ _ _ _ (by omega),Ad rfl,List.take_set_of_le Ln]
         .intro k hk;rw [Y7 _ _ _ _ (by omega),Ac (by omega)];exact aB.out k (by omega)
         .refine o.out.trans ?_;refine (((Mod.setCell _ _ _ _ (.inl rfl)).trans (Mod.setCell _ _ _ _ (.inl (.inl rfl)))).trans (Mod.setCell _ _ _ _ (.inl (.inl rfl)))).trans (Mod.setCell _ _ _ _ (.inl (.inl rfl))) |>.trans (Mod.setCell _ _ _ _ (.inl (.inl rfl)))
        case measure=>simp [intOf];omega
      .have aE:d+1=m:=(by omega);have aR:¬ (d:Int)+1<m:=(by omega);have z:a+1+(d+1)=l.length:=(by omega);rw [z,Dn Ln] at am aA;have aS:b<=M.length:=(by have h1:=am.out;have h2:=Aog l;omega);obtain ⟨tb,a2,aG⟩:=S7 (i:=i0) Lr aF n l.length cap b (b:Int) rfl (by omega);have a3:=Aof (i:=i0) Lr aF n l.length cap b (b:Int) rfl (by omega);obtain ⟨w5,a4,ac,ad⟩:=Aoe an.out b aS (ta:=tb) (m:=l.length-b) (mc:=cap-b) (fun h=>by rw [aG (by omega),aH]) (by omega);replace ⟨aG,ac,ad,z,aE⟩:=H5 aG ac ad z aE;clear ao al;go_wp2;go_ret
       have aN:V2 n cap l w (.returned (.slice (some ⟨n,0,none⟩) b cap)) w5:=by
        refine ⟨by rw [am.out],?_,aC.out.trans (ad.out.mono fun k _ h=>.inl h)⟩;have:=ac.out
        rwa [aA.out] at this
       exact aN
    .have hd:decide ((nth l (a+1)).f=(nth l a).f)=false:=(by simpa using hf);rw [hd];clear hd;replace ⟨hf,s⟩:=H2 hf s;go_wp2;go_roundw
     case rel=>
      refine ⟨a+1,by omega,by go_num,hB.out.trans ((Gx s.out).mono (by simp;omega)),?_⟩;intro k h1 h2;by_cases e:k=a+1
      .subst e;exact hf.out
      .exact hk.out k h1 (by omega)
     case measure=>simp [intOf];omega
   .have aI:¬ (a:Int)+1<l.length:=(by omega);replace ⟨hB,r⟩:=H2 hB r;go_wp2;go_ret
    have e:B7 l=l:=by
     have:=Y9 l l.length Ln (fun i h0 h1=>hk.out i h0 (by omega))
     rwa [Dn Ln] at this
    unfold V2;rw [e];exact ⟨rfl,r.out,Mod.af hB.out⟩
def Gi (g:V4->V4) (i e:Nat) (l:List St):List St:=l.take i++((l.take e).drop i).map (fun s=>⟨s.t,g s.f⟩)++l.drop e
def Adq (g:V4->V4) (i:Nat) (l:List St):Gi g i i l=l:=by
 have:(l.take i).drop i=[]:=by rw [List.drop_eq_nil_iff];simp;omega
 simp [Gi,this]
def R3 (g:V4->V4) (i e:Nat) (l:List St) (h:i<=e) (a:e<=l.length):(Gi g i e l).length=l.length:=by
 simp [Gi];omega
def R4 (g:V4->V4) (i e:Nat) (l:List St) (h:i<=e) (b:e<=l.length) (k:Nat) (a:k<l.length) :
  nth (Gi g i e l) k=if i<=k/\k<e then ⟨(nth l k).t,g (nth l k).f⟩ else nth l k:=by
 simp only [Gi,nth,Xq];by_cases h1:k<i
 .rw [Ku,Fv (by simp;omega),Lq,Ad h1,Ac (by omega)]
 .by_cases c:k<e
  .rw [Ku,G5 (by simp;omega),Fv (by simp;omega),Ad (by omega)];simp only [Ff,Mu (show i<=l.length by omega),Bx,Ol,Lq];rw [Ad (by omega),show i+(k-i)=k by omega,Am a];simp
  .rw [G5 (by simp;omega),Ac (by omega)];congr 1;simp only [De,Ff,Ax,G7,Ol];congr 1;omega
def Aoh (l m:List St) (h:l.length=m.length) (a:∀ k,k<l.length->nth l k=nth m k):l=m:=by
 apply List.ext_getElem h;intro i h1 b;have:=a i h1;simpa [nth,h1,b] using this
def Adr (g:V4->V4) (i e:Nat) (l:List St) (h:i<=e) (m:e<l.length):Gi g i (e+1) l=(Gi g i e l).set e ⟨(nth l e).t,g (nth l e).f⟩:=by
 have c:=R3 g i (e+1) l (by omega) (by omega);have j:=R3 g i e l h (by omega);refine Aoh _ _ (by simp [c,j]) fun k b=>?_;rw [c] at b;rw [R4 g i (e+1) l (by omega) (by omega) k b,Y7 _ _ _ _ (by omega),R4 g i e l h (by omega) k b];by_cases a:k=e
 .subst a;simp [h]
 .by_cases d:i<=k/\k<e
  .rw [Ad (by omega),Ac a,Ad d]
  .rw [Ac (by omega),Ac a,Ac d]
def Qd (l:List St) (t:Int) (n:Nat) (l':List St):Prop:=
 ∃ k,Kh l t k/\(((nth l k).t=t/\l'=l/\n=k)\/((nth l k).t≠t/\l'=Ki l k t/\n=k+1))
def Ads (l:List St) (k:Nat) (t:Int) (a:k<l.length) (j:Nat) (b:j<l.length+1) :
  nth (Ki l k t) j=if j<=k then nth l j else if j=k+1 then ⟨t,(nth l k).f⟩ else nth l (j-1):=by
 simp only [Ki];by_cases h1:j<=k
 .rw [Ad h1,An9 _ _ _ (by simp;omega),V1 l (k+1) j (by omega)]
 .rw [Ac h1];obtain ⟨d,rfl⟩:∃ d,j=k+1+d:=⟨j-(k+1),by omega⟩;have e:nth (l.take (k+1)++⟨t,(nth l k).f⟩ :: l.drop (k+1)) (k+1+d)=nth (⟨t,(nth l k).f⟩ :: l.drop (k+1)) d:=by simp only [nth,Xq];rw [G5 (by simp;omega)];congr 2;simp;omega
  rw [e]
  cases d with
  | zero=>simp [nth]
  | succ d=>
   rw [Ac (by omega),show k+1+(d+1)-1=k+1+d by omega];simp [nth]
def Qd.facts {l d:List St} {t:Int} {n:Nat} (h:Qd l t n d) (c:Cb l) (x:t<1099511627776) :
  Cb d/\n<d.length/\(nth d n).t=t/\l.length<=d.length/\(∀ j,j<l.length->(nth l j).t<t->j<n/\nth d j=nth l j)/\(∀ j,j<d.length->∃ i,i<l.length/\(nth d j).f=(nth l i).f):=by
 obtain ⟨k,y,h⟩:=h;obtain ⟨m,k2,u⟩:=y;rcases h with ⟨h1,rfl,rfl⟩ | ⟨h1,rfl,rfl⟩
 .refine ⟨c,m,h1,Nat.le_refl _,fun j b z=>⟨?_,rfl⟩,fun j b=>⟨j,b,rfl⟩⟩;apply Il;intro hc;by_cases e:j=n
  .subst e;omega
  .have:=c.bh n j (by omega) b;omega
 .have a:=Y6 l k t m;have g:=Ads l k t m;have ac:(nth l k).t<t:=by omega
  refine ⟨⟨by omega,by rw [g 0 (by omega),Ad (by omega)];exact c.zero,?_,?_⟩,by omega,?_,by omega,?_,?_⟩
  .intro i j s b;rw [a] at b;rw [g i (by omega),g j (by omega)];by_cases o:i<=k
   .rw [Ad o]
    have ad:(nth l i).t<=(nth l k).t:=by
     by_cases e:i=k
     .subst e;omega
     .have:=c.bh i k (by omega) m;omega
    by_cases p:j<=k
    .rw [Ad p];exact c.bh i j s (by omega)
    .rw [Ac p];by_cases q:j=k+1
     .rw [Ad q];show (nth l i).t<t;omega
     .rw [Ac q];exact c.bh i (j-1) (by omega) (by omega)
   .rw [Ac o,Ac (show ¬ j<=k by omega),Ac (show ¬ j=k+1 by omega)];by_cases r:i=k+1
    .rw [Ad r];show t<_;exact u (j-1) (by omega) (by omega)
    .rw [Ac r];exact c.bh (i-1) (j-1) (by omega) (by omega)
  .intro i v;rw [a] at v;rw [g i v];split
   .exact c.last i (by omega)
   .split
    .exact x
    .exact c.last (i-1) (by omega)
  .rw [g (k+1) (by omega),Ac (by omega),Ad rfl]
  .intro j b z
   have:j<=k:=by apply Il;intro hc;have:=u j (by omega) b;omega
   exact ⟨by omega,by rw [g j (by omega),Ad this]⟩
  .intro j b;rw [a] at b;rw [g j b];split
   .exact ⟨j,by omega,rfl⟩
   .split
    .exact ⟨k,m,rfl⟩
    .exact ⟨j-1,by omega,rfl⟩
def Adt (c f cap:Nat) (whole:V4) (l:List St) (t:Int) (w:World) (g:Cg w c f cap whole l) (i:Cb l) (j:0<=t) (m:t<=1099511627776) :
  Calls Tryz.prog 315 #[.pointer (some ⟨c,0,none⟩),.int .i64 t] w fun e w'=>∃ (n a b:Nat) (d:List St),e=.returned (.int .i64 n)/\Qd l t n d/\Cg w' c a b whole d/\(a=f\/w.heap.size<=a)/\Mod (·=c) w w':=
 (An6 c f cap whole l t w g i j m).mono fun _ _ ⟨n,k,a,b,d,he,hk,h,hp',hm⟩=>⟨n,a,b,d,he,⟨k,hk,by rcases h with h | h;exact .inl ⟨h.1,h.2.1,h.2.2.1⟩;exact .inr ⟨h.1,h.2.1,h.2.2.1⟩⟩,hp',by rcases h with h | h;exact .inl h.2.2.2.1;exact .inr h.2.2.2,hm⟩
def Qe (l:List St) (fr t_o:Int) (g:V4->V4) (l':List St):Prop:=
 ∃ i l1 e l2,Qd l fr i l1/\((t_o<1099511627776/\Qd l1 t_o e l2)\/(t_o=1099511627776/\l2=l1/\e=l1.length))/\l'=B7 (Gi g i e l2)
def Adu (pb sb:Nat) (whole:V4) (l:List St) (fr t_o:Int) (g:V4->V4) (w:World) (e:Ending) (w':World):Prop:=
 e=.returned (.tuple #[])/\∃ sb' cap' l',Qe l fr t_o g l'/\Cg w' pb sb' cap' whole l'/\(sb'=sb\/w.heap.size<=sb')/\Mod (fun b=>b=pb\/b=sb) w w'
def Qf (pb sb vb:Nat) (V whole:V4) (w wr:World) (sb2 cap2:Nat) (M:List St):Prop:=
 Cg wr pb sb2 cap2 whole M/\(sb2=sb\/w.heap.size<=sb2)/\Mod (fun b=>b=pb\/b=sb) w wr/\wr.heap[vb]?=some (.cells V.cells 30 (0,0))/\vb≠pb/\vb≠sb2
def World.jt (w:World) (sb i:Nat) (f:V4):World:=
 (((w.setCell ⟨sb,i*5+1,none⟩ (.int .i64 f.a)).setCell ⟨sb,i*5+2,none⟩ (.int .i64 f.b)).setCell ⟨sb,i*5+3,none⟩ (.int .i64 f.c)).setCell ⟨sb,i*5+4,none⟩ (.int .i64 f.d)
def Row.jt {w:World} {b cap:Nat} {l:List St} (h:Row w b cap l) (i:Nat) (f:V4) (g:i<l.length):Row (World.jt w b i f) b cap (l.set i ⟨(nth l i).t,f⟩):=by
 have k:=h.ki i ⟨(nth l i).t,f⟩ g;have d:=(h.cells g).1;refine k.of_block ?_;obtain ⟨_,_,m,c,_⟩:=h
 have a:(w.setCell ⟨b,i*5,none⟩ (.int .i64 (nth l i).t)).heap[b]?=w.heap[b]?:=by
  rw [Al c,c];rw [Aa c] at d;congr 2;apply Array.ext
  .simp
  .intro j h1 n;rw [Array.getElem_setIfInBounds];split
   .next e=>subst e;rw [Pk n] at d;exact (J0 d).symm
   .rfl
 unfold World.jt World.ki;rw [Al (Al (Al (Al c _ _) _ _) _ _) _ _];rw [Al (Al (Al (Al (a.trans c) _ _) _ _) _ _) _ _]
def Mod.jt {S:Nat->Prop} (w:World) (b i:Nat) (f:V4) (a:S b):Mod S w (World.jt w b i f):=
 (((Mod.setCell _ _ _ _ a).trans (Mod.setCell _ _ _ _ (.inl a))).trans (Mod.setCell _ _ _ _ (.inl a))).trans (Mod.setCell _ _ _ _ (.inl a))
def Adv {i m j:Nat} {V whole:V4} {w wr g:World} {c e:Nat} {M:List St} (h:Qf i m j V whole w wr c e M) (d:Below wr.heap.size wr g) (a:Nat) (f:V4) (u:a<M.length) :
  Qf i m j V whole w (World.jt g c a f) c e (M.set a ⟨(nth M a).t,f⟩):=by
 obtain ⟨⟨n,o,p⟩,q,v,r,x,s⟩:=h;have y:=Ab n;have z:=o.lt;have l3:=Ab r;have l:Mod (fun b=>b=c) g (World.jt g c a f):=Mod.jt g c a f rfl;have s4:=d.size;refine ⟨⟨?_,(o.below d z).jt a f u,p⟩,q,?_,?_,x,s⟩
 .rw [l.block i (by omega) p,d.block i y,n,Dg]
 .refine (v.trans (Mod.af d)).trans (Mod.mono l ?_);rintro k _ rfl;rcases q with h | h
  .exact .inl (.inr h)
  .exact .inr h
 .rw [l.block j (by omega) s,d.block j l3];exact r
def Adw {d i n:Nat} {V whole:V4} {l:List St} {fr t_o:Int} {g:V4->V4} {w wr e:World} {b a:Nat} {M:List St} (h:Qf d i n V whole w wr b a M) (o:Qe l fr t_o g (B7 M))
  (p:Row e b a (B7 M)) (c:Mod (·=b) wr e):Adu d i whole l fr t_o g w (.returned (.tuple #[])) (e.setCell ⟨d,4,none⟩ (.slice (some ⟨b,0,none⟩) (B7 M).length a)):=by
 obtain ⟨⟨j,s,f⟩,m,q,t,u,v⟩:=h;have r:=Ab j;refine ⟨rfl,b,a,B7 M,o,⟨?_,p.of_block (Cd _ _ _ _ (Ne.symm f)),f⟩,m,?_⟩
 .rw [Al ((c.block d r f).trans j)];simp
 .refine (q.trans (c.mono ?_)).trans (Mod.setCell _ _ _ _ (.inl (.inl rfl)));rintro k _ rfl;rcases m with h | h
  .exact .inl (.inr h)
  .exact .inr h
def Adx (pb sb cap vb:Nat) (V whole:V4) (l:List St) (fr t_o:Int) (F:FuncId) (g:V4->V4) (w:World) (hp:Cg w pb sb cap whole l) (hl:Cb l)
  (h0:0<=fr) (h1:fr<t_o) (h2:t_o<=1099511627776) (hv:w.heap[vb]?=some (.cells V.cells 30 (0,0))) (aJ:vb≠pb) (aP:vb≠sb)
  (hF:∀ args w,(callFunc F args).run Tryz.prog w=.ok (.enter F args) w)
  (H:∀ (s:V4) (w1:World),w1.heap[vb]?=some (.cells V.cells 30 (0,0))->Calls Tryz.prog F #[s.val,.pointer (some ⟨vb,0,none⟩)] w1 fun e w2=>e=.returned (g s).val/\Below w1.heap.size w1 w2) :
  Calls Tryz.prog 278 #[.pointer (some ⟨pb,0,none⟩),.int .i64 fr,.int .i64 t_o,.func (.func F) #[] #[.pointer (some ⟨vb,0,none⟩)]] w (Adu pb sb whole l fr t_o g w):=by
 replace ⟨H,hp,hl,hv,aJ,aP⟩:=H6 H hp hl hv aJ aP;go_enter Tryz.func278,Tryz.ntmps278;go_wp2_with fail;refine (Adt pb sb cap whole l fr w hp.out hl.out h0 (by omega)).mono ?_;rintro e w2 ⟨i,y,av,r,rfl,aA,aB,aK,aL⟩;obtain ⟨aC,a9,aQ,bl,aW,aX⟩:=aA.facts hl.out (by omega);have p4:=Aa aB.head 4;simp at p4;have ba:=aC.len;have hC:Qf pb sb vb V whole w w2 y av r:=⟨aB,aK,aL.mono fun k _ h=>.inl h,(aL.block vb (Ab hv.out) aJ.out).trans hv.out,aJ.out,by rcases aK with h | h;(rw [h];exact aP.out);(have:=Ab hv.out;omega)⟩;replace ⟨hC,aA,aC,aB,aK,aL,aQ,aW⟩:=H8 hC aA aC aB aK aL aQ aW;replace aX:=Hh aX;by_cases aY:t_o<1099511627776
 .go_wp2_with fail;refine (Adt pb y av whole r t_o w2 aB.out aC.out (by omega) h2).mono ?_;rintro e w3 ⟨n,z,aD,l2,rfl,aM,aR,aN,aO⟩;obtain ⟨aS,bn,aZ,bs,aT,a0⟩:=aM.facts aC.out aY;have aU:i<=n:=by have:=aT i a9 (by rw [aQ.out];omega);omega
  have aE:Qf pb sb vb V whole w w3 z aD l2:=by
   obtain ⟨_,a2,a3,a4,a5,a6⟩:=hC.out;refine ⟨aR,?_,a3.trans (aO.mono fun k _ h=>.inl (.inl h)),(aO.block vb (Ab a4) a5).trans a4,a5,?_⟩
   .rcases aN with h | h
    .rw [h];exact a2
    .exact .inr (A6 a3.size h)
   .rcases aN with h | h
    .rw [h];exact a6
    .have:=Ab a4;omega
  have ac:(t_o<1099511627776/\Qd r t_o n l2)\/(t_o=1099511627776/\l2=r/\n=r.length):=.inl ⟨aY,aM⟩;have bb:=aS.len;replace ⟨aE,ac,aS,aM,aR,aN,aO,aZ⟩:=H8 aE ac aS aM aR aN aO aZ;replace ⟨aT,a0⟩:=H2 aT a0;clear p4;go_wp2;go_loopw [10] (fun k wr=>∃ (a:Nat) (M:List St),i<=a/\a<=n/\k=.int .i64 a/\Hid (M=Gi g i a l2)/\Hid (Qf pb sb vb V whole w wr z aD M)) (fun k _=>n-(intOf k).toNat)
  case atStart=>exact ⟨i,l2,Nat.le_refl _,aU,rfl,(Adq g i l2).symm,aE.out⟩
  case round=>
   obtain ⟨a,M,ad,bc,rfl,hM,al⟩:=hrel;obtain ⟨c,v,x,u,a1,a7⟩:=al.out;have q:M.length=l2.length:=(by rw [hM.out];exact R3 g i a l2 ad (by omega));have q4:=Aa c.head 4;have qf:=Ah c.head 4;simp at q4;have am:=Ab c.head;have j:=c.row.lt;have aF:=c.ne;have bd:M.length<=1099511627777:=(by omega);by_cases be:a<n
   .have aG:(a:Int)<n:=(by omega);have aH:a<M.length:=(by omega);have a8:(a:Int)<M.length:=(by omega);have bf:(0:Int)<=(a:Int):=(by omega);obtain ⟨c0,c1,c2,c3,c4⟩:=c.row.cells (i:=a) aH;have ff:=c.row.free;replace ⟨q,c,v,x,u,ff⟩:=H6 q c v x u ff;have aV:Hid (wr.drew.heap[vb]?=some (.cells V.cells 30 (0,0))):=u.out;go_wp2_with fail;go_region_law
     (first
       | (go_simp
          (with_reducible refine (H.out (nth M a).f _ aV.out).mono ?_)
          rintro e w4 ⟨rfl,b⟩;replace b:=Gx b;have bg:=(Ag b am).trans q4;have d1:=(Ag b (o:=a*5+1) j).trans c1;have d2:=(Ag b (o:=a*5+2) j).trans c2;have d3:=(Ag b (o:=a*5+3) j).trans c3;have d4:=(Ag b (o:=a*5+4) j).trans c4;have f1:=(b.frozen (p:=⟨z,a*5+1,none⟩) j).trans (ff.out _);have f2:=(b.frozen (p:=⟨z,a*5+2,none⟩) j).trans (ff.out _);have f3:=(b.frozen (p:=⟨z,a*5+3,none⟩) j).trans (ff.out _);have f4:=(b.frozen (p:=⟨z,a*5+4,none⟩) j).trans (ff.out _)
          replace b:=Hh b))
    all_goals
     go_wp2;go_roundw
     case rel=>
      refine ⟨a+1,M.set a ⟨(nth M a).t,g (nth M a).f⟩,by omega,by omega,by go_num,?_,Adv al.out b.out a (g (nth M a).f) aH⟩;show _=Gi g i (a+1) l2;have hx:=R4 g i a l2 ad (by omega) a (by have:=q.out;omega);rw [Ac (by omega),<- hM.out] at hx;rw [Adr g i a l2 ad (by have:=q.out;omega),<- hM.out,hx]
     case measure=>simp [intOf];omega
   .have aG:¬ (a:Int)<n:=(by omega);have an:a=n:=(by omega);have ao:Qe l fr t_o g (B7 M):=⟨i,r,n,l2,aA.out,ac.out,by rw [hM.out,an]⟩;have ap:=c.row;replace ⟨an,q,ao,c,v,x,u,ap⟩:=H8 an q ao c v x u ap;go_wp2_with fail;refine (Adp z aD M wr ap.out (by omega)).mono ?_;rintro e w5 ⟨rfl,m,d⟩;have bi:=(Bp (w:=wr) (d.block pb am aF)).trans q4;have bk:=(Ok (w:=wr) (d.block pb am aF)).trans qf;replace ⟨m,d⟩:=H2 m d;go_wp2;go_end0;exact Adw al.out ao.out m.out d.out
 .have aI:t_o=1099511627776:=by omega
  have aU:i<=r.length:=by omega
  have aE:=hC;replace aI:=Hh aI;go_wp2;go_loopw [10] (fun k wr=>∃ (a:Nat) (M:List St),i<=a/\a<=r.length/\k=.int .i64 a/\Hid (M=Gi g i a r)/\Hid (Qf pb sb vb V whole w wr y av M)) (fun k _=>r.length-(intOf k).toNat)
  case atStart=>exact ⟨i,r,Nat.le_refl _,aU,rfl,(Adq g i r).symm,aE.out⟩
  case round=>
   obtain ⟨a,M,ad,bc,rfl,hM,al⟩:=hrel;obtain ⟨c,v,x,u,a1,a7⟩:=al.out;have q:M.length=r.length:=(by rw [hM.out];exact R3 g i a r ad (by omega));have q4:=Aa c.head 4;have qf:=Ah c.head 4;simp at q4;have am:=Ab c.head;have j:=c.row.lt;have aF:=c.ne;have bd:M.length<=1099511627777:=(by omega);by_cases be:a<r.length
   .have aG:(a:Int)<r.length:=(by omega);have aH:a<M.length:=(by omega);have a8:(a:Int)<M.length:=(by omega);have bf:(0:Int)<=(a:Int):=(by omega);obtain ⟨c0,c1,c2,c3,c4⟩:=c.row.cells (i:=a) aH;have ff:=c.row.free;replace ⟨q,c,v,x,u,ff⟩:=H6 q c v x u ff;have aV:Hid (wr.drew.heap[vb]?=some (.cells V.cells 30 (0,0))):=u.out;go_wp2_with fail;go_region_law
     (first
       | (go_simp
          (with_reducible refine (H.out (nth M a).f _ aV.out).mono ?_)
          rintro e w4 ⟨rfl,b⟩;replace b:=Gx b;have bg:=(Ag b am).trans q4;have d1:=(Ag b (o:=a*5+1) j).trans c1;have d2:=(Ag b (o:=a*5+2) j).trans c2;have d3:=(Ag b (o:=a*5+3) j).trans c3;have d4:=(Ag b (o:=a*5+4) j).trans c4;have f1:=(b.frozen (p:=⟨y,a*5+1,none⟩) j).trans (ff.out _);have f2:=(b.frozen (p:=⟨y,a*5+2,none⟩) j).trans (ff.out _);have f3:=(b.frozen (p:=⟨y,a*5+3,none⟩) j).trans (ff.out _);have f4:=(b.frozen (p:=⟨y,a*5+4,none⟩) j).trans (ff.out _)
          replace b:=Hh b))
    all_goals
     go_wp2;go_roundw
     case rel=>
      refine ⟨a+1,M.set a ⟨(nth M a).t,g (nth M a).f⟩,by omega,by omega,by go_num,?_,Adv al.out b.out a (g (nth M a).f) aH⟩;show _=Gi g i (a+1) r;have hx:=R4 g i a r ad (by omega) a (by have:=q.out;omega);rw [Ac (by omega),<- hM.out] at hx;rw [Adr g i a r ad (by have:=q.out;omega),<- hM.out,hx]
     case measure=>simp [intOf];omega
   .have aG:¬ (a:Int)<r.length:=(by omega);have an:a=r.length:=(by omega);have ao:Qe l fr t_o g (B7 M):=⟨i,r,r.length,r,aA.out,(.inr ⟨aI.out,rfl,rfl⟩),by rw [hM.out,an]⟩;have ap:=c.row;replace ⟨an,q,ao,c,v,x,u,ap⟩:=H8 an q ao c v x u ap;go_wp2_with fail;refine (Adp y av M wr ap.out (by omega)).mono ?_;rintro e w5 ⟨rfl,m,d⟩;have bi:=(Bp (w:=wr) (d.block pb am aF)).trans q4;have bk:=(Ok (w:=wr) (d.block pb am aF)).trans qf;replace ⟨m,d⟩:=H2 m d;go_wp2;go_end0;exact Adw al.out ao.out m.out d.out
def pl:List St->Int->Nat
 | [],_=>0
 | [_],_=>0
 | _ :: s :: r,t=>if s.t<=t then pl (s :: r) t+1 else 0
def Iy (s:St) (r:List St):nth (s :: r) 0=s:=rfl
def Em (s:St) (r:List St) (i:Nat):nth (s :: r) (i+1)=nth r i:=by simp [nth]
def Za {s:St} {r:List St} (h:Ma (s :: r)):Ma r:=by
 intro i j a b;have:=h (i+1) (j+1) (by omega) (by simpa using b);simpa [Em] using this
def Kh.o8 {l:List St} {t:Int} {k:Nat} (h:Kh l t k) (c:Ma l):k=pl l t:=by
 induction l generalizing k with
 | nil=>exact absurd h.1 (by simp)
 | cons s r ih=>
  cases r with
  | nil=>have:=h.1;simp at this;simpa [pl] using this
  | cons s2 r2=>
   simp only [pl];obtain ⟨h1,a,d⟩:=h;by_cases f:s2.t<=t
   .rw [Ad f]
    cases k with
    | zero=>have:=d 1 (by omega) (by simp);simp only [Em,Iy] at this;omega
    | succ k=>
     have:=ih (k:=k) ⟨by simpa using h1,by simpa [Em] using a,fun j g b=>by have:=d (j+1) (by omega) (by simpa using b);simpa [Em] using this⟩ (Za c);omega
   .rw [Ac f]
    cases k with
    | zero=>rfl
    | succ k=>
     exfalso;rw [Em] at a;by_cases e:k=0
     .subst e;rw [Iy] at a;omega
     .have:=c 1 (k+1) (by omega) h1;simp only [Em,Iy] at this;omega
def O0 (v:V4) (b:Int):List St->V4
 | []=>v
 | s :: r=>if b<=s.t then v else O0 (v.least s.f) b r
def Ec (v:V4):List St->V4
 | []=>v
 | s :: r=>Ec (v.least s.f) r
def Aoi (v:V4) (l:List St) (s:St):Ec v (l++[s])=(Ec v l).least s.f:=by
 induction l generalizing v with
 | nil=>rfl
 | cons a l ih=>exact ih _
def Ady (b:Int) (l:List St) (n:Nat) (a:n<=l.length):∀ v,(∀ j,j<n->(nth l j).t<b)->(n<l.length->b<=(nth l n).t)->O0 v b l=Ec v (l.take n):=by
 induction l generalizing n with
 | nil=>
  intro v _ _;have:n=0:=by simpa using a
  subst this;rfl
 | cons s r ih=>
  intro v h1 c
  cases n with
  | zero=>simp only [O0,List.take_zero,Ec];rw [Ad (by have:=c (by simp);rwa [Iy] at this)]
  | succ n=>
   simp only [O0,List.take_succ_cons,Ec];rw [Ac (by have:=h1 0 (by omega);rw [Iy] at this;omega)];exact ih n (by simpa using a) _ (fun j d=>by have:=h1 (j+1) (by omega);rwa [Em] at this) (fun h=>by have:=c (by simpa using h);rwa [Em] at this)
def Lc (whole:V4) (l:List St) (fr t_o:Int):V4:=
 if min t_o 1099511627776<=max fr 0 then whole else O0 whole (min t_o 1099511627776) (l.drop (pl l (max fr 0)))
def Na (l:List St) (k j:Nat):nth (l.drop k) j=nth l (k+j):=by simp [nth]
def Adz {P:Program} {t e:TypeId} {i:TypeInfo} (c:P.underlying t=some (.slice e)) (d:P.info? e=some i) (b a cap n:Nat) (x:Int) (f:x=n) (j:n<a) (k:a<=cap) (size:Nat) (g:i.size=size) :
  ∃ m mc,(∀ w,(Instr.slice t (.slice (some ⟨b,0,none⟩) a cap) (some (.int .i64 x)) none none).run P w=.ok (.slice (some ⟨b,n*size,none⟩) m mc) w)/\Hid (m=a-n):=by
 obtain ⟨ta,h1,h⟩:=S7 c d b a cap n x f (by omega);obtain rfl:=h (by omega);rw [g] at h1;exact ⟨_,_,h1,rfl⟩
def Aoj {whole:V4} {l:List St} {k a m:Nat} {B:Int} (_hk:k<l.length) (d:m=l.length-k) (e:a<=m) (h1:∀ j,j<a->(nth l (k+j)).t<B) (b:a<m->B<=(nth l (k+a)).t) :
  O0 whole B (l.drop k)=Ec whole ((l.drop k).take a):=
 Ady B (l.drop k) a (by rw [G7];omega) whole (fun j c=>by rw [Na];exact h1 j c) (fun h=>by rw [Na];exact b (by rw [G7] at h;omega))
def Aok (whole:V4) (l:List St) (k a:Nat) (h:k+a<l.length):(Ec whole ((l.drop k).take a)).least (nth l (k+a)).f=Ec whole ((l.drop k).take (a+1)):=by
 rw [To _ a (by rw [G7];omega),Aoi,Na]
def Aol (u sb cap:Nat) (whole:V4) (l:List St) (fr t_o:Int) (w:World) (o:Cg w u sb cap whole l) (hl:Cb l) :
  Calls Tryz.prog 277 #[.pointer (some ⟨u,0,none⟩),.int .i64 fr,.int .i64 t_o] w fun e w'=>e=.returned (Lc whole l fr t_o).val/\Below w.heap.size w w':=by
 obtain ⟨i0,aC,aK,aD,aL⟩:=C0 V0;have aJ:=hl.len;have an:=o.row.le;obtain ⟨A,hA⟩:=Ex (max fr 0);obtain ⟨B,hB⟩:=Ex (min t_o 1099511627776);have n:Lc whole l fr t_o=if B<=A then whole else O0 whole B (l.drop (pl l A)):=by rw [hA,hB];rfl
 have c0:=Aa o.head 0;have c1:=Aa o.head 1;have c2:=Aa o.head 2;have c3:=Aa o.head 3;have c4:=Aa o.head 4;simp at c0 c1 c2 c3 c4;have ao:=Ab o.head;have ap:=o.row.lt;replace ⟨o,hl,n⟩:=H3 o hl n;go_enter Tryz.func277,Tryz.ntmps277;have aM:(if fr<0 then 0 else fr)=A:=by rw [hA];omega
 have aN:(if 1099511627776<t_o then 1099511627776 else t_o)=B:=by rw [hB];omega
 have aE:0<=A:=by omega
 have aO:B<=1099511627776:=by omega
 replace ⟨hA,hB⟩:=H2 hA hB;by_cases av:B<=A
 .replace n:=Hh (n.out.trans (Ad av));go_wp2;refine Ao (v:=whole.val) (by simp [results,Tryz.results277,go_sem]) rfl ⟨by rw [n.out],?_⟩;exact Bn.alloc (by simp) _
 .have aP:A<1099511627776:=by omega
  replace n:=Hh (n.out.trans (Ac av));go_wp2_with fail
  have p4:∀ x y,((w.alloc x).alloc y).drew.cell? ⟨u,4,none⟩=some (.slice (some ⟨sb,0,none⟩) l.length cap):=fun x y=>by
   rw [<- c4];exact Bp (w:=w) ((Gs _ y u (by simp;omega)).trans (Gs w x u ao))
  have z:∀ x y,Cg ((w.alloc x).alloc y).drew u sb cap whole l:=fun x y=>by
   have hb:Below w.heap.size w ((w.alloc x).alloc y).drew:=(Bn.alloc (by simp) _).drew;exact ⟨Ae hb o.out.head ao,o.out.row.below hb ap,o.out.ne⟩
  replace ⟨p4,z⟩:=H2 p4 z;go_region_held3 (fun w'=>w'.cell? ⟨u,4,none⟩=some (.slice (some ⟨sb,0,none⟩) l.length cap))
   (first
     | go_keep
     | (rw [Ag p (by simp;omega)];exact p4.out _ _))
   (first
     | (go_at_call 313;refine (Vz u sb cap whole l A _ (z.out _ _) hl.out aE (by omega)).mono ?_;rintro e w2 ⟨k,rfl,hk,p⟩;obtain ⟨m,mc,aQ,hm⟩:=Adz (i:=i0) Lr aC sb l.length cap k (k:Int) rfl hk.1 an 5 aD;have aF:=hk.1
        replace hk:=Hh hk))
  have aR:m<=1099511627777:=by have:=hm.out;omega
  have ac:=hk.out.o8 hl.out.bh;have q:Lc whole l fr t_o=O0 whole B (l.drop k):=by rw [ac];exact n.out
  replace ⟨ac,q⟩:=H2 ac q;have ad:=((Bn.alloc (by simp) _).drew).trans (p.mono (by simp;omega));have g1:=Ae p (S6 (A2 (b:=w.heap.size+1) _ _ (by simp))) (by simp);have g0:=Ae p (S6 (Ai _ (Af _ _))) (by simp;omega);replace ⟨ad,g0,g1,p⟩:=H4 ad g0 g1 p;go_wp2;go_loopw [34] (fun c wr=>∃ a:Nat,a<=m/\c=.int .i64 a/\Below w.heap.size w wr/\Hid (wr.heap[w.heap.size+1]?=some (.cells (Ec whole ((l.drop k).take a)).cells 30 (0,0)))/\Hid (wr.heap[w.heap.size]?=some (.cells V4.zero.cells 30 (0,0)))/\Hid (∀ j,j<a->(nth l (k+j)).t<B)) (fun c _=>m-(intOf c).toNat)
  case atStart=>exact ⟨0,Av _,rfl,ad.out,g1.out,g0.out,by intro j hj;omega⟩
  case round=>
   obtain ⟨a,aG,rfl,d,G1,G0,aA⟩:=hrel;have e1:=Aa G1.out;have e0:=Aa G0.out;have aH:=Ah G0.out;have x1:=e1 0;have x2:=e1 1;have x3:=e1 2;have x4:=e1 3;have y1:=e0 0;have y2:=e0 1;have y3:=e0 2;have y4:=e0 3;have l1:=Ab G1.out;have l0:=Ab G0.out;simp at x1 x2 x3 x4 y1 y2 y3 y4;clear e1 e0
   have g:∀ (hd:a<m->B<=(nth l (k+a)).t),Lc whole l fr t_o=Ec whole ((l.drop k).take a):=fun hd=>by
    rw [q.out];exact Aoj aF hm.out aG aA.out hd
   replace g:=Hh g;by_cases hc:a<m
   .have aI:(a:Int)<m:=(by omega);have aS:(0:Int)<=(a:Int):=(by omega);obtain ⟨c0,c1,c2,c3,c4⟩:=(o.out.row.below d ap).cells (i:=k+a) (by have:=hm.out;omega);simp only [Kx] at c0 c1 c2 c3 c4;by_cases hb:(nth l (k+a)).t<B
    .have aB:¬ B<=(nth l (k+a)).t:=(by omega);go_wp2_with fail;refine (Anq (Ec whole ((l.drop k).take a)) (nth l (k+a)).f _).mono ?_;rintro e w4 ⟨rfl,r⟩;rw [Aok whole l k a (by have:=hm.out;omega)];have al:=(d.alloc d.size _).trans (r.mono (by have:=d.size;simp;omega));have s:=Ae r (Ai _ G1.out) (by simp;omega);have am:=Ae r (Ai _ G0.out) (by simp;omega);have z1:=Aa s;have zf:=Ah s;replace ⟨s,am,al,r⟩:=H4 s am al r;clear x1 x2 x3 x4 y1 y2 y3 y4 c0 c1 c2 c3 c4 aH;replace d:=Hh d;go_wp2;go_roundw
     case rel=>
      refine ⟨a+1,by omega,by go_num,?_,?_,?_,?_⟩
      .exact (((al.out.setCell (by simp) _).setCell (by simp) _).setCell (by simp) _).setCell (by simp) _
      .unfold Hid;rw [Al (Al (Al (Al s.out _ _) _ _) _ _) _ _];simp
      .exact Dh (by omega) _ (Dh (by omega) _ (Dh (by omega) _ (Dh (by omega) _ am.out)))
      .intro j hj;by_cases e:j=a
       .subst e;exact hb
       .exact aA.out j (by omega)
     case measure=>simp [intOf];omega
    .have aB:B<=(nth l (k+a)).t:=(by omega);replace g:=Hh (g.out (fun _=>aB));replace d:=Hh d;go_wp2;refine Ao (v:=(Ec whole ((l.drop k).take a)).val) (by simp [results,Tryz.results277,go_sem,y1,y2,y3,y4,l0]) rfl ⟨by rw [g.out],?_⟩;refine Below.alloc ?_ (by have:=d.out.size;simpa using this) _;exact (((d.out.setCell Ln _).setCell Ln _).setCell Ln _).setCell Ln _
   .have aI:¬ (a:Int)<m:=(by omega);replace g:=Hh (g.out (fun h=>absurd h hc));replace d:=Hh d;go_wp2;refine Ao (v:=(Ec whole ((l.drop k).take a)).val) (by simp [results,Tryz.results277,go_sem,y1,y2,y3,y4]) rfl ⟨by rw [g.out],?_⟩;exact (((d.out.setCell Ln _).setCell Ln _).setCell Ln _).setCell Ln _
def _root_.Go.Proofs.YtimlcnhcjndijaaGreatDoor.V4.dq (u v:V4):V4:=⟨max u.a v.a,max u.b v.b,max u.c v.c,max u.d v.d⟩
def Qg (v:V4) (b:Int):List St->V4
 | []=>v
 | s :: r=>if b<=s.t then v else Qg (v.dq s.f) b r
def En (v:V4):List St->V4
 | []=>v
 | s :: r=>En (v.dq s.f) r
def Aom (v:V4) (l:List St) (s:St):En v (l++[s])=(En v l).dq s.f:=by
 induction l generalizing v with
 | nil=>rfl
 | cons a l ih=>exact ih _
def Ad0 (b:Int) (l:List St) (n:Nat) (a:n<=l.length):∀ v,(∀ j,j<n->(nth l j).t<b)->(n<l.length->b<=(nth l n).t)->Qg v b l=En v (l.take n):=by
 induction l generalizing n with
 | nil=>
  intro v _ _;have:n=0:=by simpa using a
  subst this;rfl
 | cons s r ih=>
  intro v h1 c
  cases n with
  | zero=>simp only [Qg,List.take_zero,En];rw [Ad (by have:=c (by simp);rwa [Iy] at this)]
  | succ n=>
   simp only [Qg,List.take_succ_cons,En];rw [Ac (by have:=h1 0 (by omega);rw [Iy] at this;omega)];exact ih n (by simpa using a) _ (fun j d=>by have:=h1 (j+1) (by omega);rwa [Em] at this) (fun h=>by have:=c (by simpa using h);rwa [Em] at this)
def Aon {l:List St} {k a m:Nat} {B:Int} (d:m=l.length-k) (e:a<=m) (h1:∀ j,j<a->(nth l (k+j)).t<B) (b:a<m->B<=(nth l (k+a)).t) :
  Qg V4.zero B (l.drop k)=En V4.zero ((l.drop k).take a):=
 Ad0 B (l.drop k) a (by rw [G7];omega) V4.zero (fun j c=>by rw [Na];exact h1 j c) (fun h=>by rw [Na];exact b (by rw [G7] at h;omega))
def Aoo (l:List St) (k a:Nat) (h:k+a<l.length):(En V4.zero ((l.drop k).take a)).dq (nth l (k+a)).f=En V4.zero ((l.drop k).take (a+1)):=by
 rw [To _ a (by rw [G7];omega),Aom,Na]
def E8 (l:List St) (fr t_o:Int):V4:=Qg V4.zero t_o (l.drop (pl l fr))
def Aop (v:V4) (w:World):(Instr.index 30 v.val (.int .i64 0)).run Tryz.prog w=.ok (.int .i64 v.a) w:=by kernel_rfl
def Aoq (v:V4) (w:World):(Instr.index 30 v.val (.int .i64 1)).run Tryz.prog w=.ok (.int .i64 v.b) w:=by kernel_rfl
def Aor (v:V4) (w:World):(Instr.index 30 v.val (.int .i64 2)).run Tryz.prog w=.ok (.int .i64 v.c) w:=by kernel_rfl
def Aos (v:V4) (w:World):(Instr.index 30 v.val (.int .i64 3)).run Tryz.prog w=.ok (.int .i64 v.d) w:=by kernel_rfl
def Ad1 (r sb cap:Nat) (whole:V4) (l:List St) (fr t_o:Int) (w:World) (q:Cg w r sb cap whole l) (hl:Cb l) (h0:0<=fr) (h1:fr<=1099511627776) :
  Calls Tryz.prog 282 #[.pointer (some ⟨r,0,none⟩),.int .i64 fr,.int .i64 t_o] w fun e w'=>e=.returned (E8 l fr t_o).val/\Below w.heap.size w w':=by
 obtain ⟨i0,ao,aF,ap,aG⟩:=C0 V0;have aE:=hl.len;have ac:=q.row.le;have c4:=Aa q.head 4;simp at c4;have ad:=Ab q.head;have al:=q.row.lt;replace ⟨q,hl⟩:=H2 q hl;go_enter Tryz.func282,Tryz.ntmps282;go_wp2_with fail
 have p4:∀ s u,((w.alloc s).alloc u).drew.cell? ⟨r,4,none⟩=some (.slice (some ⟨sb,0,none⟩) l.length cap):=fun s u=>by
  rw [<- c4];exact Bp (w:=w) ((Gs _ u r (by simp;omega)).trans (Gs w s r ad))
 have x:∀ s u,Cg ((w.alloc s).alloc u).drew r sb cap whole l:=fun s u=>by
  have hb:Below w.heap.size w ((w.alloc s).alloc u).drew:=(Bn.alloc (by simp) _).drew;exact ⟨Ae hb q.out.head ad,q.out.row.below hb al,q.out.ne⟩
 replace ⟨p4,x⟩:=H2 p4 x;go_region_held3 (fun w'=>w'.cell? ⟨r,4,none⟩=some (.slice (some ⟨sb,0,none⟩) l.length cap))
  (first
    | go_keep
    | (rw [Ag o (by simp;omega)];exact p4.out _ _))
  (first
    | (go_at_call 313;refine (Vz r sb cap whole l fr _ (x.out _ _) hl.out h0 h1).mono ?_;rintro e w2 ⟨k,rfl,hk,o⟩;obtain ⟨m,mc,aH,hm⟩:=Adz (i:=i0) Lr ao sb l.length cap k (k:Int) rfl hk.1 ac 5 ap;have aI:=hk.1
       replace hk:=Hh hk))
 have aJ:m<=1099511627777:=by have:=hm.out;omega
 have y:=hk.out.o8 hl.out.bh;have p:E8 l fr t_o=Qg V4.zero t_o (l.drop k):=by rw [y];rfl
 replace ⟨y,p⟩:=H2 y p;have z:=((Bn.alloc (by simp) _).drew).trans (o.mono (by simp;omega));have g1:=Ae o (S6 (A2 (b:=w.heap.size+1) _ _ (by simp))) (by simp);have g0:=Ae o (S6 (Ai _ (Af _ _))) (by simp;omega);replace ⟨z,g0,g1,o⟩:=H4 z g0 g1 o;go_wp2;go_loopw [10,11,21] (fun _ _ c wr=>∃ a:Nat,a<=m/\c=.int .i64 a/\Below w.heap.size w wr/\Hid (wr.heap[w.heap.size+1]?=some (.cells (En V4.zero ((l.drop k).take a)).cells 30 (0,0)))/\Hid (wr.heap[w.heap.size]?=some (.cells V4.zero.cells 30 (0,0)))/\Hid (∀ j,j<a->(nth l (k+j)).t<t_o)) (fun _ _ c _=>m-(intOf c).toNat)
 case atStart=>exact ⟨0,Av _,rfl,z.out,g1.out,g0.out,by intro j hj;omega⟩
 case round=>
  obtain ⟨a,av,rfl,n,G1,G0,am⟩:=hrel;obtain ⟨X,hX⟩:=Ex (En V4.zero ((l.drop k).take a));rw [<- hX] at G1;have e1:=Aa G1.out;have e0:=Aa G0.out;have aA:=Ah G0.out;have x1:=e1 0;have x2:=e1 1;have x3:=e1 2;have x4:=e1 3;have y1:=e0 0;have y2:=e0 1;have y3:=e0 2;have y4:=e0 3;have l1:=Ab G1.out;have l0:=Ab G0.out;simp at x1 x2 x3 x4 y1 y2 y3 y4;clear e1 e0
  have g:∀ (hd:a<m->t_o<=(nth l (k+a)).t),E8 l fr t_o=X:=fun hd=>by
   rw [p.out,hX];exact Aon hm.out av am.out hd
  replace ⟨g,hX⟩:=H2 g hX;by_cases hc:a<m
  .have aB:(a:Int)<m:=(by omega);have aK:(0:Int)<=(a:Int):=(by omega);obtain ⟨c0,c1,c2,c3,c4⟩:=(q.out.row.below n al).cells (i:=k+a) (by have:=hm.out;omega);simp only [Kx] at c0 c1 c2 c3 c4;by_cases hb:(nth l (k+a)).t<t_o
   .have an:¬ t_o<=(nth l (k+a)).t:=(by omega);obtain ⟨F,hF⟩:=Ex ((nth l (k+a)).f);rw [<- hF] at c1 c2 c3 c4;replace hF:=Hh hF;clear y1 y2 y3 y4 aA;replace n:=Hh n;go_wp2;have ma:(if X.a<F.a then F.a else X.a)=(X.dq F).a:=(by simp only [V4.dq];omega);have mb:(if X.b<F.b then F.b else X.b)=(X.dq F).b:=(by simp only [V4.dq];omega);have mc:(if X.c<F.c then F.c else X.c)=(X.dq F).c:=(by simp only [V4.dq];omega);have md:(if X.d<F.d then F.d else X.d)=(X.dq F).d:=(by simp only [V4.dq];omega);have ff:=Ah G1.out;have i0:=Aop F;have i1:=Aoq F;have i2:=Aor F;have i3:=Aos F;refine Nr 5 ?_;rw [Jc];go_wp2;rw [Jc];go_wp2;rw [Jc];go_wp2;rw [Jc];go_wp2;rw [Jc];go_wp2;go_roundw
    case rel=>
     have aC:=n.out.size;have aD:X.dq F=En V4.zero ((l.drop k).take (a+1)):=(by rw [hX.out,hF.out];exact Aoo l k a (by have:=hm.out;omega));refine ⟨a+1,by omega,by go_num,?_,?_,?_,?_⟩
     .refine Below.alloc ?_ (by simpa using aC) _;exact (((n.out.setCell (by simp) _).setCell (by simp) _).setCell (by simp) _).setCell (by simp) _
     .unfold Hid;refine Ai _ ?_;rw [Al (Al (Al (Al G1.out _ _) _ _) _ _) _ _,<- aD];simp
     .unfold Hid;exact Ai _ (Dh (by omega) _ (Dh (by omega) _ (Dh (by omega) _ (Dh (by omega) _ G0.out))))
     .intro j hj;by_cases e:j=a
      .subst e;exact hb
      .exact am.out j (by omega)
    case measure=>simp [intOf];omega
   .have an:t_o<=(nth l (k+a)).t:=(by omega);replace g:=Hh (g.out (fun _=>an));replace n:=Hh n;go_wp2;refine Ao (v:=X.val) (by simp [results,Tryz.results282,go_sem,y1,y2,y3,y4,l0]) rfl ⟨by rw [g.out],?_⟩;refine Below.alloc ?_ (by have:=n.out.size;simpa using this) _;exact (((n.out.setCell Ln _).setCell Ln _).setCell Ln _).setCell Ln _
  .have aB:¬ (a:Int)<m:=(by omega);replace g:=Hh (g.out (fun h=>absurd h hc));replace n:=Hh n;go_wp2;refine Ao (v:=X.val) (by simp [results,Tryz.results282,go_sem,y1,y2,y3,y4]) rfl ⟨by rw [g.out],?_⟩;exact (((n.out.setCell Ln _).setCell Ln _).setCell Ln _).setCell Ln _
def Bj (fr t_o:Int) (v:V4):Bool:=decide (0<=fr) && decide (fr<t_o) && decide (t_o<=1099511627776) && v.right
def Ad2 (fr t_o:Int) (v:V4) (w:World) :
  Calls Tryz.prog 276 #[.int .i64 fr,.int .i64 t_o,v.val] w fun e w'=>e=.returned (.bool (Bj fr t_o v))/\Below w.heap.size w w':=by
 by_cases h1:0<=fr
 .by_cases c:fr<t_o
  .by_cases d:t_o<=1099511627776
   .have a:Bj fr t_o v=v.right:=(by simp [Bj,h1,c,d]);rw [a];clear a;go_enter Tryz.func276,Tryz.ntmps276;go_wp2_with fail;refine (In v _).mono ?_;rintro e f ⟨rfl,b⟩;go_wp2;go_ret;exact ⟨rfl,Bn.trans (b.mono (by simp))⟩
   .have a:Bj fr t_o v=false:=(by simp [Bj,d]);rw [a];clear a;go_enter Tryz.func276,Tryz.ntmps276;go_wp2;go_ret;exact ⟨rfl,Bn⟩
  .have a:Bj fr t_o v=false:=(by simp [Bj,c]);rw [a];clear a;go_enter Tryz.func276,Tryz.ntmps276;go_wp2;go_ret;exact ⟨rfl,Bn⟩
 .have a:Bj fr t_o v=false:=by simp [Bj,h1]
  rw [a];clear a;go_enter Tryz.func276,Tryz.ntmps276;go_wp2;go_ret;exact ⟨rfl,Bn⟩
def Aot:∀ args w,(callFunc 279 args).run Tryz.prog w=.ok (.enter 279 args) w:=Im Tryz.func279 (by decide) (by simp [Tryz.f279])
def Aou:∀ args w,(callFunc 283 args).run Tryz.prog w=.ok (.enter 283 args) w:=Im Tryz.func283 (by decide) (by simp [Tryz.f283])
def Aov (s v:V4) (i:Nat) (w:World) (d:w.heap[i]?=some (.cells v.cells 30 (0,0))) :
  Calls Tryz.prog 279 #[s.val,.pointer (some ⟨i,0,none⟩)] w fun e w'=>e=.returned (s.sub v).1.val/\Below w.heap.size w w':=by
 have j:=Aa d 0;have k:=Aa d 1;have l:=Aa d 2;have m:=Aa d 3;simp at j k l m;have o:=Ab d;clear d;go_enter Tryz.func279,Tryz.ntmps279;go_wp2_with fail;refine (Anv s v _).mono ?_;rintro e p ⟨rfl,a⟩;have c:=(Bn.alloc (by simp) _).trans (a.mono (by simp;omega));have g:=Ae a (Ai _ (Af _ _)) (by simp;omega);have h:=Ae a (A2 (b:=w.heap.size+1) _ _ (by simp)) (by simp);have q:=Aa g;have t:=Ah g;have n:=Aa h;have u:=Ah h;replace ⟨a,c⟩:=H2 a c;clear g h j k l m;obtain ⟨r,f⟩:=Ex (s.sub v);rw [<- f];replace f:=Hh f;go_wp2;refine Ao (v:=r.1.val) (by simp [results,Tryz.results279,go_sem,n]) rfl ⟨by rw [f.out],?_⟩
 repeat (refine Cn ?_ (by simp) _)
 exact c.out
def Aow (s v:V4) (i:Nat) (w:World) (d:w.heap[i]?=some (.cells v.cells 30 (0,0))) :
  Calls Tryz.prog 283 #[s.val,.pointer (some ⟨i,0,none⟩)] w fun e w'=>e=.returned (s.add v).1.val/\Below w.heap.size w w':=by
 have j:=Aa d 0;have k:=Aa d 1;have l:=Aa d 2;have m:=Aa d 3;simp at j k l m;have o:=Ab d;clear d;go_enter Tryz.func283,Tryz.ntmps283;go_wp2_with fail;refine (Adk s v _).mono ?_;rintro e p ⟨rfl,a⟩;have c:=(Bn.alloc (by simp) _).trans (a.mono (by simp;omega));have g:=Ae a (Ai _ (Af _ _)) (by simp;omega);have h:=Ae a (A2 (b:=w.heap.size+1) _ _ (by simp)) (by simp);have q:=Aa g;have t:=Ah g;have n:=Aa h;have u:=Ah h;replace ⟨a,c⟩:=H2 a c;clear g h j k l m;obtain ⟨r,f⟩:=Ex (s.add v);rw [<- f];replace f:=Hh f;go_wp2;refine Ao (v:=r.1.val) (by simp [results,Tryz.results283,go_sem,n]) rfl ⟨by rw [f.out],?_⟩
 repeat (refine Cn ?_ (by simp) _)
 exact c.out
def Ad3 (whole:V4) (l:List St) (fr t_o:Int) (v:V4) (r:Int) (l':List St):Prop:=
 (Bj fr t_o v=false/\r=1/\l'=l)\/(Bj fr t_o v=true/\v.fits (Lc whole l fr t_o)=false/\r=60/\l'=l) \/
  (Bj fr t_o v=true/\v.fits (Lc whole l fr t_o)=true/\r=0/\Qe l fr t_o (fun f=>(f.sub v).1) l')
def Zb (pb sb:Nat) (whole:V4) (R:Int->List St->Prop) (w:World) (e:Ending) (w':World):Prop:=
 ∃ r sb' cap' l',e=.returned (.int .i64 r)/\R r l'/\Cg w' pb sb' cap' whole l'/\(sb'=sb\/w.heap.size<=sb')/\Mod (fun b=>b=pb\/b=sb) w w'
def Cg.below {B a b cap:Nat} {w w':World} {whole:V4} {l:List St} (h:Cg w a b cap whole l) (c:Below B w w') (h1:a<B) (d:b<B):Cg w' a b cap whole l:=
 ⟨Ae c h.head h1,h.row.below c d,h.ne⟩
def Cg.drew {a b cap:Nat} {w:World} {whole:V4} {l:List St} (h:Cg w a b cap whole l):Cg w.drew a b cap whole l:=⟨h.head,h.row.of_block rfl,h.ne⟩
def Cg.lt {a b cap:Nat} {w:World} {whole:V4} {l:List St} (h:Cg w a b cap whole l):a<w.heap.size/\b<w.heap.size:=⟨Ab h.head,h.row.lt⟩
def Mb {fr t_o:Int} {v:V4} (h:Bj fr t_o v=true):0<=fr/\fr<t_o/\t_o<=1099511627776/\v.right=true:=by
 simp [Bj] at h;exact ⟨h.1.1.1,h.1.1.2,h.1.2,h.2⟩
def Ad4 (pb x cap:Nat) (whole:V4) (l:List St) (fr t_o:Int) (v:V4) (w:World) (hp:Cg w pb x cap whole l) (hl:Cb l) :
  Calls Tryz.prog 241 #[.pointer (some ⟨pb,0,none⟩),.int .i64 fr,.int .i64 t_o,v.val] w (Zb pb x whole (Ad3 whole l fr t_o v) w):=by
 obtain ⟨ad,al⟩:=hp.lt;replace ⟨hp,hl⟩:=H2 hp hl;go_enter Tryz.func241,Tryz.ntmps241;go_wp2_with fail;refine (Ad2 fr t_o v _).mono ?_;rintro e w2 ⟨rfl,n⟩;have g:=Bn.trans (n.mono (by simp));have t:=Ae n (Af _ _) (by simp);have o:=hp.out.below g ad al;have s2:=g.size;have am:=Ab t;replace ⟨n,g,o⟩:=H3 n g o;by_cases u:Bj fr t_o v=true
 .rw [u];obtain ⟨b1,b2,b3,b4⟩:=Mb u;have x0:=Aa t 0;have x1:=Aa t 1;have x2:=Aa t 2;have x3:=Aa t 3;simp at x0 x1 x2 x3;replace ⟨t,u,b4⟩:=H3 t u b4;go_wp2_with fail;have ao:Hid (Cg w2.drew pb x cap whole l):=o.out.drew;go_region_held3 (fun w'=>w'.cell? ⟨w.heap.size,0,none⟩=some (.int .i64 v.a)/\w'.cell? ⟨w.heap.size,1,none⟩=some (.int .i64 v.b)/\w'.cell? ⟨w.heap.size,2,none⟩=some (.int .i64 v.c)/\w'.cell? ⟨w.heap.size,3,none⟩=some (.int .i64 v.d))
   (first
     | go_keep
     | (have _t:=i;go_split_ands;refine ⟨?_,?_,?_,?_⟩<;>(rw [Ag i (by omega)];assumption))
     | (go_split_ands;refine ⟨?_,?_,?_,?_⟩<;>(rw [Ag j (by simpa using am)];assumption)))
   (first
     | (go_at_call 277;refine (Aol pb x cap whole l fr t_o _ ao.out hl.out).mono ?_;rintro e w3 ⟨rfl,j⟩;have s3:=j.size;simp at s3)
     | (go_at_call 65;refine (U1 v (Lc whole l fr t_o) _).mono ?_;rintro e w4 ⟨rfl,i⟩))
  have m:=g.out.trans ((Gx j).mono (by simp;omega) |>.trans (i.mono (by omega)));have p:=hp.out.below m ad al;have g4:=Ae i (Ae (Gx j) t.out (by simpa using am)) (by omega);have s4:=m.size;replace ⟨p,m,g4,j,i⟩:=H5 p m g4 j i;by_cases hf:v.fits (Lc whole l fr t_o)=true
  .simp only [hf];replace hf:=Hh hf;go_wp2_with fail;refine (Adx pb x cap w.heap.size v whole l fr t_o 279 (fun f=>(f.sub v).1) _ p.out hl.out b1 b2 b3 g4.out (by omega) (by omega) Aot (fun s w1 h=>Aov s v _ w1 h)).mono ?_;rintro e w5 ⟨rfl,ap,an,l',hc,y,z,ac⟩;replace ⟨hc,y,z,ac⟩:=H4 hc y z ac;go_wp2;go_ret;refine ⟨0,ap,an,l',rfl,.inr (.inr ⟨u.out,hf.out,rfl,hc.out⟩),y.out,?_,(Mod.af m.out).trans (ac.out.mono fun k _ h=>.inl h)⟩;rcases z.out with h | h
   .exact .inl h
   .exact .inr (A6 s4 h)
  .have q:v.fits (Lc whole l fr t_o)=false:=(by simpa using hf);simp only [q];replace q:=Hh q;clear hf;go_wp2;go_ret;exact ⟨60,x,cap,l,rfl,.inr (.inl ⟨u.out,q.out,rfl,rfl⟩),p.out,.inl rfl,Mod.af m.out⟩
 .have r:Bj fr t_o v=false:=by simpa using u
  rw [r];replace r:=Hh r;clear u;go_wp2;go_ret;exact ⟨1,x,cap,l,rfl,.inl ⟨r.out,rfl,rfl⟩,o.out,.inl rfl,Mod.af g.out⟩
def Kj (l:List St) (aa:Int) (v:V4) (u:Int):Prop:=
 ∀ k,k<l.length->(nth l k).t<u+aa->(k+1<l.length->u<(nth l (k+1)).t)->v.fits (nth l k).f=true
def Ig (l:List St) (after aa:Int) (v:V4) (t:Int) (is:Bool):Prop:=
 if 1<=aa/\v.right=true/\after<1099511627776 then
  (is=true/\max after 0<=t/\t+aa<=1099511627776/\Kj l aa v t/\∀ u,max after 0<=u->u<t->¬ Kj l aa v u) \/
   (is=false/\t=0/\∀ u,max after 0<=u->u+aa<=1099511627776->¬ Kj l aa v u)
 else t=0/\is=false
def Ao0 (l:List St) (after aa:Int) (v:V4) (w:World) (e:Ending) (w':World):Prop:=
 ∃ t is,e=.returned (.tuple #[.int .i64 t,.bool is])/\Ig l after aa v t is/\Below w.heap.size w w'
def Aea {l:List St} {d t:Int} {v:V4} {p k:Nat} (g:Cb l) (b:Kh l t p) (h:∀ j,p<=j->j<k->v.fits (nth l j).f=true) (a:k<l.length->t+d<=(nth l k).t):Kj l d v t:=by
 intro j i h1 m
 have c:p<=j:=by
  apply Il;intro n;have:=m (by have:=b.1;omega);by_cases e:j+1=p
  .rw [e] at this;have:=b.2.1;omega
  .have:=g.bh (j+1) p (by omega) b.1;have:=b.2.1;omega
 refine h j c ?_;apply Il;intro n;have o:=a (by omega);by_cases e:j=k
 .subst e;omega
 .have:=g.bh k j (by omega) i;omega
def Aeb {l:List St} {a t u:Int} {v:V4} {k:Nat} (b:k<l.length) (h1:(nth l k).t<t+a) (c:v.fits (nth l k).f=false) (e:t<=u) (d:k+1<l.length->u<(nth l (k+1)).t):¬ Kj l a v u:=by
 intro h;have:=h k b (by omega) d;rw [c] at this;cases this
def Ao1 (pb sb cap:Nat) (whole:V4) (l:List St) (after q:Int) (v:V4) (w:World) (hp:Cg w pb sb cap whole l) (hl:Cb l) (ha:after<=9223372036854775807) :
  Calls Tryz.prog 287 #[.pointer (some ⟨pb,0,none⟩),.int .i64 after,.int .i64 q,v.val] w (Ao0 l after q v w):=by
 obtain ⟨aF,aG⟩:=hp.lt;have aV:=hl.len;replace ⟨hp,hl⟩:=H2 hp hl;by_cases h1:1<=q
 .have aX:decide (q<1)=false:=by simp;omega
  go_enter Tryz.func287,Tryz.ntmps287;go_wp2_with fail;go_step3;go_wp2_with fail;refine (In v _).mono ?_;rintro e w2 ⟨rfl,aA⟩;have s:=Bn.trans (aA.mono (by simp));have g2:=Ae aA (Af _ _) (by simp);have s2:=s.size;replace ⟨aA,s,g2⟩:=H3 aA s g2;by_cases hr:v.right=true
  .rw [hr];replace hr:=Hh hr;by_cases aP:after<1099511627776
   .obtain ⟨A,hA⟩:=Ex (max after 0);have aY:(if after<0 then 0 else after)=A:=(by rw [hA];omega);have aZ:0<=A:=(by omega);have aQ:A<1099511627776:=(by omega);have a0:decide (1099511627776<=after)=false:=(by simp;omega);replace hA:=Hh hA
    have n:Ig l after q v=fun t is=>(is=true/\A<=t/\t+q<=1099511627776/\Kj l q v t/\∀ u,A<=u->u<t->¬ Kj l q v u)\/(is=false/\t=0/\∀ u,A<=u->u+q<=1099511627776->¬ Kj l q v u):=by
     funext t is
     unfold Ig;rw [Ad ⟨h1,hr.out,aP⟩,<- hA.out]
    replace n:=Hh n;go_wp2;go_step3;go_wp2;go_loopw [10,11] (fun ac _ wr=>∃ T:Int,ac=.int .i64 T/\A<=T/\T<1099511627776/\Hid (Below w2.heap.size w2 wr)/\Hid (∀ u,A<=u->u<T->¬ Kj l q v u)) (fun ac _ _=>1099511627776-(intOf ac).toNat)
    case atStart=>exact ⟨A,rfl,Db _,aQ,Below.refl _ _,by intro u h1 h2;omega⟩
    case round=>
     obtain ⟨T,rfl,aK,hT,aH,ad⟩:=hrel;have aB:=s.out.trans (aH.out.mono s2);have al:=hp.out.below aB aF aG;replace aB:=Hh aB;by_cases a1:q<=1099511627776-T
     .go_wp2_with fail;refine (Vz pb sb cap whole l T wr al hl.out (by omega) (by omega)).mono ?_;rintro e w3 ⟨p,rfl,y,aI⟩;have aW:=y.1;have am:=aH.out.trans (aI.mono aH.out.size);replace ⟨y,aI,am,al⟩:=H4 y aI am al;go_wp2;go_loopw [10,11] (fun ac aJ wx=>∃ k:Nat,ac=.int .i64 T/\aJ=.int .i64 k/\k<=l.length/\p<=k/\Hid (Below w2.heap.size w2 wx)/\Hid (∀ j,p<=j->j<k->v.fits (nth l j).f=true)) (fun _ aJ _=>l.length-(intOf aJ).toNat)
      case atStart=>exact ⟨p,rfl,rfl,by omega,Nat.le_refl _,am.out,by intro j h1 h2;omega⟩
      case round=>
       obtain ⟨k,rfl,rfl,a2,a3,aC,an⟩:=hrel;have m:=s.out.trans (aC.out.mono s2);have r:=hp.out.below m aF aG;have q4:=Aa r.head 4;simp at q4;by_cases hk:k<l.length
       .have aR:(k:Int)<l.length:=(by omega);have a4:(0:Int)<=(k:Int):=(by omega);obtain ⟨c0,c1,c2,c3,c4⟩:=r.row.cells (i:=k) hk;by_cases aL:(nth l k).t<T+q
        .have gx:=Ae aC.out g2.out (Ab g2.out);have x0:=Aa gx 0;have x1:=Aa gx 1;have x2:=Aa gx 2;have x3:=Aa gx 3;simp at x0 x1 x2 x3;have aD:=Ab gx;have aS:=r.lt;obtain ⟨aT,aE⟩:=aS;replace ⟨gx,r,m⟩:=H3 gx r m;go_wp2_with fail
         go_region_held3 (fun w'=>w'.cell? ⟨w.heap.size,0,none⟩=some (.int .i64 v.a)/\w'.cell? ⟨w.heap.size,1,none⟩=some (.int .i64 v.b)/\w'.cell? ⟨w.heap.size,2,none⟩=some (.int .i64 v.c)/\w'.cell? ⟨w.heap.size,3,none⟩=some (.int .i64 v.d)/\w'.cell? ⟨pb,4,none⟩=some (.slice (some ⟨sb,0,none⟩) l.length cap) /\
          w'.cell? ⟨sb,k*5+1,none⟩=some (.int .i64 (nth l k).f.a)/\w'.cell? ⟨sb,k*5+2,none⟩=some (.int .i64 (nth l k).f.b)/\w'.cell? ⟨sb,k*5+3,none⟩=some (.int .i64 (nth l k).f.c)/\w'.cell? ⟨sb,k*5+4,none⟩=some (.int .i64 (nth l k).f.d))
          (first
            | (go_keep;done)
            | (go_split_ands;refine ⟨?_,?_,?_,?_,?_,?_,?_,?_,?_⟩
               · (rw [Ag o (by simpa using aD)];assumption)
               · (rw [Ag o (by simpa using aD)];assumption)
               · (rw [Ag o (by simpa using aD)];assumption)
               · (rw [Ag o (by simpa using aD)];assumption)
               · (rw [Ag o (by simpa using aT)];assumption)
               · (rw [Ag o (by simpa using aE)];assumption)
               · (rw [Ag o (by simpa using aE)];assumption)
               · (rw [Ag o (by simpa using aE)];assumption)
               · (rw [Ag o (by simpa using aE)];assumption)))
          (first | (go_at_call 65;refine (U1 v (nth l k).f _).mono ?_;rintro e w4 ⟨rfl,o⟩))
         have ao:=aC.out.trans ((Gx o).mono (by have:=aC.out.size;simpa using this));have z:=s.out.trans (ao.mono s2);have x:=hp.out.below z aF aG;have r4:=Aa x.head 4;simp at r4;clear c0 c1 c2 c3 c4 x0 x1 x2 x3 q4;replace ⟨o,ao,z⟩:=H3 o ao z;by_cases hf:v.fits (nth l k).f=true
         .simp only [hf];replace ⟨hf,x⟩:=H2 hf x;go_wp2;go_roundw
          case rel=>
           refine ⟨k+1,rfl,by go_num,by omega,by omega,ao.out,?_⟩;intro j h1 h2;by_cases e:j=k
           .subst e;exact hf.out
           .exact an.out j h1 (by omega)
          case measure=>simp [intOf];omega
         .have ap:v.fits (nth l k).f=false:=(by simpa using hf);simp only [ap];replace ap:=Hh ap;clear hf;by_cases av:k+1=l.length
          .have aU:((k:Int)+1 == (l.length:Int))=true:=by rw [My];omega
           have g:Ig l after q v 0 false:=by
            rw [n.out];refine .inr ⟨rfl,rfl,fun u h1 h2=>?_⟩;by_cases hu:u<T
            .exact ad.out u h1 hu
            .exact Aeb hk aL ap.out (by omega) (fun h=>by omega)
           replace ⟨g,x,av⟩:=H3 g x av;go_wp2;go_ret2;exact ⟨0,false,rfl,g.out,z.out⟩
          .have aU:((k:Int)+1 == (l.length:Int))=false:=(by rw [Bg];omega);have a5:(k:Int)+1<l.length:=(by omega);obtain ⟨d0,_,_,_,_⟩:=x.row.cells (i:=k+1) (by omega);have aM:=hl.out.last (k+1) (by omega)
           have a6:T<(nth l (k+1)).t:=by
            by_cases e:k=p
            .rw [e];exact y.out.2.2 (p+1) (by omega) (by omega)
            .have:=y.out.2.2 (k+1) (by omega) (by omega);exact this
           replace x:=Hh x;go_wp2;go_roundw
           case rel=>
            refine ⟨(nth l (k+1)).t,rfl,by omega,aM,ao.out,?_⟩;intro u h1 h2;by_cases hu:u<T
            .exact ad.out u h1 hu
            .exact Aeb hk aL ap.out (by omega) (fun _=>h2)
           case measure=>simp [intOf];omega
        .have aN:T+q<=(nth l k).t:=(by omega);have g:Ig l after q v T true:=(by rw [n.out];exact .inl ⟨rfl,aK,by omega,Aea hl.out y.out an.out (fun _=>aN),ad.out⟩);replace ⟨g,r,m⟩:=H3 g r m;go_wp2;go_ret2;exact ⟨T,true,rfl,g.out,m.out⟩
       .have aR:¬ (k:Int)<l.length:=(by omega);have g:Ig l after q v T true:=(by rw [n.out];exact .inl ⟨rfl,aK,by omega,Aea hl.out y.out an.out (fun h=>absurd h hk),ad.out⟩);replace ⟨g,r,m⟩:=H3 g r m;go_wp2;go_ret2;exact ⟨T,true,rfl,g.out,m.out⟩
     .have g:Ig l after q v 0 false:=(by rw [n.out];exact .inr ⟨rfl,rfl,fun u h1 h2=>ad.out u h1 (by omega)⟩);replace ⟨g,al⟩:=H2 g al;go_wp2;go_ret2;exact ⟨0,false,rfl,g.out,aB.out⟩
   .have hrel:Ig l after q v 0 false:=(by unfold Ig;rw [Ac (by omega)];exact ⟨rfl,rfl⟩);replace hrel:=Hh hrel;go_wp2;rw [Lu];go_ret2;exact ⟨0,false,rfl,hrel.out,s.out⟩
  .have aO:v.right=false:=(by simpa using hr);rw [aO];have hrel:Ig l after q v 0 false:=(by unfold Ig;rw [Ac (fun h=>hr h.2.1)];exact ⟨rfl,rfl⟩);replace hrel:=Hh hrel;clear hr aO;go_wp2;rw [Lu];go_ret2;exact ⟨0,false,rfl,hrel.out,s.out⟩
 .have hrel:Ig l after q v 0 false:=by unfold Ig;rw [Ac (by omega)];exact ⟨rfl,rfl⟩
  replace hrel:=Hh hrel;go_enter Tryz.func287,Tryz.ntmps287;go_wp2;go_step3;go_wp2;rw [Lu];go_ret2;exact ⟨0,false,rfl,hrel.out,Bn⟩
def Zh (whole:V4) (w:World) (e:Ending) (w':World):Prop:=
 (whole.right=false/\e=.returned (.pointer none)/\Below w.heap.size w w') \/
  (whole.right=true/\∃ pb sb,e=.returned (.pointer (some ⟨pb,0,none⟩))/\Cg w' pb sb 1 whole [⟨0,whole⟩]/\w.heap.size<=pb/\w.heap.size<=sb/\Below w.heap.size w w')
def V5 (whole:V4) (w:World):Calls Tryz.prog 273 #[whole.val] w (Zh whole w):=by
 go_enter Tryz.func273,Tryz.ntmps273;go_wp2_with fail;refine (In whole _).mono ?_;rintro e f ⟨rfl,b⟩;have a:=Bn.trans (b.mono (by simp));have c:=Ae b (Af _ _) (by simp);have g:=Aa c 0;have h:=Aa c 1;have i:=Aa c 2;have j:=Aa c 3;simp at g h i j;have k:=a.size;replace ⟨a,b,c⟩:=H3 a b c;cases d:whole.right
 .replace d:=Hh d;go_wp2;go_ret;exact .inl ⟨d.out,rfl,a.out⟩
 .replace d:=Hh d;go_wp2;go_ret;refine .inr ⟨d.out,f.heap.size+1,f.heap.size,rfl,⟨?_,⟨by simp,by decide,(⟨0,whole⟩:St).cells.toArray,?_,rfl,rfl⟩,by omega⟩,by omega,by omega,?_⟩
  .exact A2 _ _ (by simp)
  .exact Ai _ (Af _ _)
  .exact (a.out.alloc k _).alloc (by simp;omega) _
end Go.Proofs.YtimlcnhcjndijaaGreatDoor.Pl
