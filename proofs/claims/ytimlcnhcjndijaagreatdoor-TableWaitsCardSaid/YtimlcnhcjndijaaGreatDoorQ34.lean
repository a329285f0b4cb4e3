/- Parts Oda, Odr. Plain theorems: no condition. -/
import Derived.Test.YtimlcnhcjndijaaGreatDoorQ31
import Derived.Test.YtimlcnhcjndijaaGreatDoorQ33
set_option linter.all false
set_option maxRecDepth 100000
set_option maxHeartbeats 4000000
namespace Go.Proofs.YtimlcnhcjndijaaGreatDoor
open Go.RowKit Go.Maps Go.Lib
structure Qv (w:World) (ao:Option Addr) (n:Nat) (ls:List (List Int)):Prop where
 len:ls.length=n
 max:n<=1000
 cell:∀ i l,ls[i]?=some l->∃ b off so sc,ao=some ⟨b,off,none⟩/\b<w.heap.size/\w.cell? ⟨b,off+i,none⟩=some (.slice so l.length sc)/\Ap w so l.length l/\l.length<=sc/\l.length<=100000
def Qv.get {w:World} {b:Option Addr} {n:Nat} {a:List (List Int)} (h:Qv w b n a) {i:Nat} (c:i<n):∃ l,a[i]?=some l:=⟨a[i]'(by rw [h.len];exact c),Am _⟩
structure gy (w:World) (n bc:Nat) (svs:List Value) (st:List Int×List (List Int)) (wr:World):Prop where
 low:Below w.heap.size w wr
 left:Ak wr w.heap.size (.slice (some ⟨w.heap.size,0,none⟩) n n) st.1
 back:Cx wr w.heap.size (w.heap.size+1) bc svs st.2
 ne:∀ (i:Nat) (sv:Value),svs[i]?=some sv->sv.ownBlock≠some w.heap.size
 l1:st.1.length=n
 l2:st.2.length=n
variable {w wr w1:World} {n bc:Nat} {svs:List Value} {st:List Int×List (List Int)}
def gy.sa (h:gy w n bc svs st wr) (o:Nat):wr.frozen? ⟨w.heap.size,o,none⟩=false:=by
 obtain ⟨c,a,_⟩:=C1 h.left.row (g:=w.heap.size) rfl;exact Ah a o
def gy.size (h:gy w n bc svs st wr):w.heap.size+1<wr.heap.size:=h.back.aq.2.1
def gy.drop (h:gy w n bc svs st wr) (a:Below wr.heap.size wr w1):gy w n bc svs st w1:=
 ⟨h.low.trans (a.mono h.low.size),h.left.mod (Mod.af (S:=fun _=>False) a) (fun _ _ c=>c),h.back.low a,h.ne,h.l1,h.l2⟩
def gy.lg (h:gy w n bc svs st wr) (i:Nat) (y:Int):gy w n bc svs (st.1.set i y,st.2) (wr.setCell ⟨w.heap.size,i,none⟩ (.int .i64 y)):=by
 have b:Mod (fun k=>k=w.heap.size) wr (wr.setCell ⟨w.heap.size,i,none⟩ (.int .i64 y)):=Mod.setCell wr w.heap.size i _ rfl;refine ⟨C9 h.low Ln,⟨?_⟩,h.back.off b (by omega) (fun j c d k f e=>h.ne j c d (by rw [f,e])),h.ne,by rw [Dg];exact h.l1,h.l2⟩;have a:=h.left.row;rw [h.l1] at a;have:=(a.stored i (.int .i64 y)).1;rw [Dg,h.l1];have e:Bs (st.1.set i y)=(Bs st.1).set i (.int .i64 y):=by simp [Bs,Mw]
 rw [e];exact this
def gy.grow (h:gy w n bc svs st wr) (q:Below wr.heap.size wr w1) {g:World} {i:Nat} {c d:Value} {l r:List Int} (m:svs[i]?=some c) (s:st.2[i]?=some l) (o:w1.grownBy g c.ownBlock) (v:Ak g w.heap.size d r)
  (t:∀ k,d.ownBlock=some k->c.ownBlock=some k\/k=w1.heap.size):gy w n bc (svs.set i d) (st.1,st.2.set i r) (g.setCell ⟨w.heap.size+1,i,none⟩ d):=by
 have h1:=h.drop q;have f:=h1.back.put m s o v t;have p:=(h1.back.each i c l m s).lt;have z:=h.size;have x:=q.size;refine ⟨C9 ?_ (by omega),?_,f,?_,h.l1,by rw [Dg];exact h.l2⟩
 .exact h1.low.grown o h1.low.size (fun k a=>(p k a).1)
 .have y:=Mod.grown o (fun k a=>a);exact (h1.left.mod y (fun k a e=>by simp [Value.ownBlock] at a;subst a;exact h.ne i c m e)).mod (Mod.setCell (S:=fun k=>k=w.heap.size+1) g (w.heap.size+1) i d rfl) (fun k a e=>by simp [Value.ownBlock] at a;omega)
 .intro j u b e;rw [Do] at b;split at b
  .split at b
   .injection b with b;subst b;rcases t _ e with e | e
    .exact h.ne i c m e
    .omega
   .cases b
  .exact h.ne j u b e
structure gz (w:World) (n bc:Nat) (svs:List Value) (back:List (List Int)) (fv ov:Value) (s:qh) (wr:World):Prop where
 or:gy w n bc svs (s.left,back) wr
 free:C4 wr w.heap.size fv s.free
 out:Ak wr w.heap.size ov s.out
 f0:fv.ownBlock≠some w.heap.size
 fs:∀ (i:Nat) (sv:Value),svs[i]?=some sv->∀ k,fv.ownBlock=some k->sv.ownBlock≠some k
 o0:ov.ownBlock≠some w.heap.size
 os:∀ (i:Nat) (sv:Value),svs[i]?=some sv->∀ k,ov.ownBlock=some k->sv.ownBlock≠some k
 fo:∀ k,fv.ownBlock=some k->ov.ownBlock≠some k
variable {back:List (List Int)} {fv ov fv' ov':Value} {s:qh} {w2:World} {l':List Int}
def C4.tq {v:Value} {l:List Int} {B b:Nat} {c:Array Value} (h:C4 w B v l) (a:w.heap[b]?=some (.cells c 31 (0,0))):v.ownBlock≠some b:=fun e=>by
 obtain ⟨f,d⟩:=h.aq e;rw [d] at a;injection a with a;injection a with _ a;exact absurd a (by decide)
def gz.drop (h:gz w n bc svs back fv ov s wr) (a:Below wr.heap.size wr w1):gz w n bc svs back fv ov s w1:=
 ⟨h.or.drop a,h.free.mod (Mod.af (S:=fun _=>False) a) (fun _ _ c=>c),h.out.mod (Mod.af (S:=fun _=>False) a) (fun _ _ c=>c),h.f0,h.fs,h.o0,h.os,h.fo⟩
def gz.lg (h:gz w n bc svs back fv ov s wr) (i:Nat) (y:Int):gz w n bc svs back fv ov ⟨s.left.set i y,s.free,s.out⟩ (wr.setCell ⟨w.heap.size,i,none⟩ (.int .i64 y)):=
 have b:Mod (fun k=>k=w.heap.size) wr (wr.setCell ⟨w.heap.size,i,none⟩ (.int .i64 y)):=Mod.setCell wr w.heap.size i _ rfl
 ⟨h.or.lg (st:=(s.left,back)) i y,h.free.mod b (fun k a e=>h.f0 (by rw [a,e])),h.out.mod b (fun k a e=>h.o0 (by rw [a,e])),h.f0,h.fs,h.o0,h.os,h.fo⟩
def gy.ic (h:gy w n bc svs st wr) {S:Nat->Prop} (a:Mod S wr w1) (h0:¬ S w.heap.size) (h1:¬ S (w.heap.size+1)) (e:∀ (i:Nat) (d:Value),svs[i]?=some d->∀ k,d.ownBlock=some k->¬ S k) (f:∀ k,S k->w.heap.size<=k):gy w n bc svs st w1:=
 ⟨⟨a.os.trans h.low.os,a.tape.trans h.low.tape,a.output.trans h.low.output,A6 h.low.size a.size,fun k b=>(a.block k (Br b h.low.size) (fun c=>by have:=f k c;omega)).trans (h.low.block k b)⟩,
  h.left.mod a (fun k b=>by simp [Value.ownBlock] at b;subst b;exact h0),h.back.off a h1 e,h.ne,h.l1,h.l2⟩
def gz.qq (h:gz w n bc svs back fv ov s wr) (m:Below wr.heap.size wr w1) (l:Mod (fun b=>fv.ownBlock=some b) w1 w2) (o:C4 w2 w.heap.size fv' l') (g:∀ k,fv'.ownBlock=some k->fv.ownBlock=some k\/k=w1.heap.size):gz w n bc svs back fv' ov ⟨s.left,l',s.out⟩ w2:=by
 have h1:=h.drop m;obtain ⟨t,p,c,q⟩:=h1.or.back.aq;refine ⟨h1.or.ic l h.f0 (h1.free.tq q) (fun i f d k a e=>h.fs i f d k e a) (fun k a=>(h.free.lt k a).1),o,h1.out.mod l (fun k a e=>h.fo k e a),fun e=>?_,fun i f d k a e=>?_,h.o0,h.os,fun k a e=>?_⟩
 .rcases g _ e with e | e
  .exact h.f0 e
  .omega
 .rcases g k a with c | c
  .exact h.fs i f d k c e
  .have j:i<back.length:=(by have r:svs.length=back.length:=h.or.back.len;have:=(Aq.1 d).1;omega);have:=((h1.or.back.each i f _ d (Am j)).lt k e).2;omega
 .rcases g k a with c | c
  .exact h.fo k c e
  .have:=(h1.out.lt k e).2;omega
def gz.tm (h:gz w n bc svs back fv ov s wr) (m:Below wr.heap.size wr w1) (l:Mod (fun b=>ov.ownBlock=some b) w1 w2) (o:Ak w2 w.heap.size ov' l') (g:∀ k,ov'.ownBlock=some k->ov.ownBlock=some k\/k=w1.heap.size):gz w n bc svs back fv ov' ⟨s.left,s.free,l'⟩ w2:=by
 have h1:=h.drop m;obtain ⟨t,p,c,q⟩:=h1.or.back.aq;refine ⟨h1.or.ic l h.o0 (B2 h1.out.row q (by decide)) (fun i f d k a e=>h.os i f d k e a) (fun k a=>(h.out.lt k a).1),h1.free.mod l (fun k a e=>h.fo k a e),o,h.f0,h.fs,fun e=>?_,fun i f d k a e=>?_,fun k a e=>?_⟩
 .rcases g _ e with e | e
  .exact h.o0 e
  .omega
 .rcases g k a with c | c
  .exact h.os i f d k c e
  .have j:i<back.length:=(by have r:svs.length=back.length:=h.or.back.len;have:=(Aq.1 d).1;omega);have:=((h1.or.back.each i f _ d (Am j)).lt k e).2;omega
 .rcases g k e with c | c
  .exact h.fo k a c
  .have:=(h1.free.lt k a).2;omega
def gz.tail {g a m cap:Nat} {x:Int} {l:List Int} (h:gz w n bc svs back (.slice (some ⟨g,a,none⟩) m cap) ov s wr) (c:s.free=x :: l):gz w n bc svs back (.slice (some ⟨g,if cap=1 then a else a+1,none⟩) l.length (cap-1)) ov ⟨s.left,l,s.out⟩ wr:=by
 have b:=h.free;rw [c] at b;exact ⟨h.or,b.tail,h.out,h.f0,h.fs,h.o0,h.os,h.fo⟩
structure qd (w:World) (n bc:Nat) (svs:List Value) (st:List Int×List (List Int)) (fv:Value) (l:List Int) (wr:World):Prop where
 or:gy w n bc svs st wr
 free:Ak wr w.heap.size fv l
 f0:fv.ownBlock≠some w.heap.size
 fs:∀ (i:Nat) (sv:Value),svs[i]?=some sv->∀ k,fv.ownBlock=some k->sv.ownBlock≠some k
def qd.start (h:gy w n bc svs st wr):qd w n bc svs st (.slice none 0 0) [] wr:=
 ⟨h,Ak.nil _ _,by simp [Value.ownBlock],fun _ _ _ k a=>by simp [Value.ownBlock] at a⟩
def qd.q {l:List Int} (h:qd w n bc svs (s.left,back) fv l wr):gz w n bc svs back fv (.slice none 0 0) ⟨s.left,l,[]⟩ wr:=
 ⟨h.or,C4.of h.free,Ak.nil _ _,h.f0,h.fs,by simp [Value.ownBlock],fun _ _ _ k a=>by simp [Value.ownBlock] at a,fun k a=>by simp [Value.ownBlock]⟩
def qd.set {l:List Int} (h:qd w n bc svs st fv l wr) (j:Below wr.heap.size wr w1) (p:Mod (fun b=>fv.ownBlock=some b) w1 w2) (q:Ak w2 w.heap.size fv' l') (m:∀ k,fv'.ownBlock=some k->fv.ownBlock=some k\/k=w1.heap.size):qd w n bc svs st fv' l' w2:=by
 have h1:=h.or.drop j;have o:=h.free.mod (Mod.af (S:=fun _=>False) j) (fun _ _ c=>c);obtain ⟨u,r,c,s⟩:=h1.back.aq;refine ⟨h1.ic p h.f0 (B2 o.row s (by decide)) (fun i f a k d e=>h.fs i f a k e d) (fun k d=>(o.lt k d).1),q,fun e=>?_,fun i f a k d e=>?_⟩
 .rcases m _ e with e | e
  .exact h.f0 e
  .omega
 .rcases m k d with c | c
  .exact h.fs i f a k c e
  .have g:i<st.2.length:=(by have t:=h.or.back.len;have:=(Aq.1 a).1;omega);have:=((h1.back.each i f _ a (Am g)).lt k e).2;omega
def As5 {v:Value} {l:List Int} {B:Nat} (h:C4 w B v l) (f:l.Pairwise (·<=·)) (k:Int) (m:l.length<=1000000) :
  Calls Tryz.prog 264 #[v,.int .i64 k] w fun e w'=>(∃ b,e=.returned (.tuple #[.int .i64 (l.countP (·<k):Nat),.bool b]))/\∃ q,w'=w.drewN q:=by
 by_cases h0:l=[]
 .obtain ⟨so,c,rfl,_⟩:=h.form;subst h0;refine (Tryz.slices_BinarySearch_int_empty so c k w).mono ?_;rintro e w' ⟨rfl,rfl⟩;exact ⟨⟨_,rfl⟩,0,rfl⟩
 .obtain ⟨g,a,cap,rfl,_,_,_,_,i⟩:=h.pos (List.length_pos_iff.2 h0);refine (Tryz.slices_BinarySearch_int g a l.length cap l k w Ln (by omega) (fun j d=>by rw [i j l[j] (Am d)];simp [List.getD,d]) (by rw [On];exact f)).mono ?_;rintro e w' ⟨rfl,q⟩;rw [On];exact ⟨⟨_,rfl⟩,q⟩
end Go.Proofs.YtimlcnhcjndijaaGreatDoor
namespace Go.Proofs.YtimlcnhcjndijaaGreatDoor
open Go.RowKit Go.Maps Go.Lib
def Agg:(Tryz.prog.info? 31).map (fun i=>(i.zero,i.size,i.bytes))=some (some (.slice none 0 0),1,24):=by kernel_rfl
def Agh (z:Value) (a:z.cells=#[z]) (n:Nat):madeCells z.cells n=(List.replicate n z).toArray:=by
 apply Array.toList_inj.1;apply Ee;intro j;by_cases b:j<n
 .simp [madeCells,a,b,Nat.mod_one]
 .simp [madeCells,a,b]
def Agi (n:Nat) (d:n<=1000000):∀ w:World,(Instr.makeSlice 31 (.int .i64 (n:Int)) (.int .i64 (n:Int))).run Tryz.prog w=.ok (.slice (some ⟨w.heap.size,0,none⟩) n n) (w.alloc (.cells (List.replicate n (Value.int .i64 0)).toArray 3 (0,0))):=by
 intro w;obtain ⟨i,a,b,h1,c⟩:=C0 M0;have:=run_make (P:=Tryz.prog) w 31 3 i _ Nm a b .i64 .i64 n n (by omega) (by omega) (by rw [c];omega) (by omega);rw [this];simp only [Jw,h1,Nat.mul_one];rw [Agh _ rfl]
def Agj (n:Nat) (d:n<=1000000):∀ w:World,(Instr.makeSlice 137 (.int .i64 (n:Int)) (.int .i64 (n:Int))).run Tryz.prog w=.ok (.slice (some ⟨w.heap.size,0,none⟩) n n) (w.alloc (.cells (List.replicate n (Value.slice none 0 0)).toArray 31 (0,0))):=by
 intro w;obtain ⟨i,a,b,h1,c⟩:=C0 Agg;have:=run_make (P:=Tryz.prog) w 137 31 i _ Tryz.underlying137 a b .i64 .i64 n n (by omega) (by omega) (by rw [c];omega) (by omega);rw [this];simp only [Jw,h1,Nat.mul_one];rw [Agh _ rfl]
def Cx.made (w:World) (B n:Nat) (c:B<=w.heap.size) (h:n<=1000000):Cx (w.alloc (.cells (List.replicate n (Value.slice none 0 0)).toArray 31 (0,0))) B w.heap.size n (List.replicate n (Value.slice none 0 0)) (List.replicate n []):=by
 refine ⟨?_,fun i j l h1 d=>?_,?_,by simp⟩
 .rw [List.length_replicate];exact World.ownsRow_lit w (List.replicate n (Value.slice none 0 0)).toArray n c (by unfold maxLen;omega) (by simp)
 .have e:=Q3 (Aj h1);have f:=Q3 (Aj d);subst e f;exact Ak.nil _ _
 .refine Oj.2 fun a b m o _ k g=>?_;simp [Value.ownBlock] at g
def Ak.made (w:World) (B n:Nat) (a:B<=w.heap.size) (b:n<=1000000):Ak (w.alloc (.cells (List.replicate n (Value.int .i64 0)).toArray 3 (0,0))) B (.slice (some ⟨w.heap.size,0,none⟩) n n) (List.replicate n 0):=by
 refine ⟨?_⟩;have:=World.ownsRow_lit (base:=B) (e:=3) (size:=1) w (List.replicate n (Value.int .i64 0)).toArray n a (by unfold maxLen;omega) (by simp);rw [List.length_replicate];simpa [Bs] using this
def As6 (ao:Option Addr) (n c:Nat) (after:List (List Int)) (w:World) (h:Qv w ao n after) :
  Calls Tryz.prog 210 #[.slice ao n c] w fun e w'=>(∃ v,e=.returned (.tuple #[v,.bool (Ij after)]))/\Below w.heap.size w w':=by
 have hn:=h.max;have aI:=h.len;have cW:=Agi n (by omega);have cX:=Agj n (by omega)
 have bI:gy w n n (List.replicate n (.slice none 0 0)) (I3 after 0) ((w.alloc (.cells (List.replicate n (Value.int .i64 0)).toArray 3 (0,0))).alloc (.cells (List.replicate n (Value.slice none 0 0)).toArray 31 (0,0))):=by
  have h1:=Ak.made w w.heap.size n Ln (by omega);have h2:=Cx.made (w.alloc (.cells (List.replicate n (Value.int .i64 0)).toArray 3 (0,0))) w.heap.size n (by simp) (by omega);have e:I3 after 0=(List.replicate n 0,List.replicate n []):=by simp [I3,aI]
  rw [e];refine ⟨Bn.alloc (by simp) _,h1.mod (Mod.alloc (fun _=>False) _ _) (fun _ _ c=>c),by simpa using h2,fun i sv hi=>?_,by simp,by simp⟩;have e1:=Q3 (Aj hi);subst e1;simp [Value.ownBlock]
 replace ⟨h,bI,aI⟩:=H3 h bI aI;go_enter Tryz.func210,Tryz.ntmps210;go_wp2_with fail;go_loopw [6,7,9,27,34] (fun _ _ _ iv _ wr=>∃ (i:Nat) (u:List Value),iv=.int .i64 i/\i<=n/\Hid (gy w n n u (I3 after i) wr)) (fun _ _ _ iv _ _=>n-(intOf iv).toNat)
 case atStart=>exact ⟨0,_,rfl,Av _,bI⟩
 case round=>
  obtain ⟨i,u,rfl,cJ,hO⟩:=hrel;by_cases hc:i<n
  .have b7:(i:Int)<n:=(by omega);have c4:(0:Int)<=(i:Int):=(by omega);obtain ⟨l,hl⟩:=h.out.get hc;obtain ⟨b,aL,so,sc,rfl,b8,bJ,aM,bQ,cK⟩:=h.out.cell i l hl;obtain ⟨m,hm⟩:=Ex (l.length);rw [<- hm] at bJ aM bQ cK;have cl:=(Ag hO.out.low b8).trans bJ;have y:I3 after (i+1)=Km n i (I3 after i) l m:=(by show Km after.length i (I3 after i) ((after[i]?).getD []) ((after[i]?).getD []).length=_;rw [aI.out,Gn hl,<- hm]);obtain ⟨aJ,a8⟩:=Ex (I3 after i)
   have bR:Tok n (100000*i) aJ:=by
    have:=Tok.to (after:=after) (b:=100000) (fun l hl=>by
     obtain ⟨j,hj⟩:=Dr hl;obtain ⟨_,_,_,_,_,_,_,_,_,h6⟩:=h.out.cell j l hj
     exact h6) (i:=i) (by rw [aI.out];exact cJ)
    rw [aI.out] at this;rw [a8];exact this
   rw [<- a8] at y hO;replace ⟨hl,hm,y,a8,bR,aM,bQ,bJ⟩:=H8 hl hm y a8 bR aM bQ bJ;go_wp2_with fail;clear cl;go_loopw [9,34] (fun _ jv wr=>∃ (j:Nat) (u:List Value),jv=.int .i64 j/\j<=m/\Hid (gy w n n u (Km n i aJ l j) wr)) (fun _ jv _=>m-(intOf jv).toNat)
   case atStart=>exact ⟨0,_,rfl,Av _,hO⟩
   case round=>
    obtain ⟨j,u,rfl,b9,hO⟩:=hrel;by_cases hd:j<m
    .have bf:(j:Int)<m:=(by omega);have ca:(0:Int)<=(j:Int):=(by omega);obtain ⟨k,z⟩:∃ k,l[j]?=some k:=aM.out.get hd;obtain ⟨b2,cY,rfl,cb,aY⟩:=aM.out.cell j k z;have ck:=(Ag hO.out.low cb).trans aY;have o:Km n i aJ l (j+1)=Pb n i (Km n i aJ l j) k:=(by show Pb n i (Km n i aJ l j) ((l[j]?).getD 0)=_;rw [Gn z]);have hT:=bR.out.row hc l j;obtain ⟨st,ap⟩:=Ex (Km n i aJ l j);rw [<- ap] at o hO hT;have aE:=hO.out.l1;have aF:=hO.out.l2;by_cases cd:0<=k
     .by_cases ce:k<(n:Int)
      .obtain ⟨kk,rfl⟩:∃ kk:Nat,k=(kk:Int):=⟨k.toNat,by omega⟩;have cf:kk<n:=(by omega);obtain ⟨x,hx⟩:∃ x,st.1[i]?=some x:=⟨_,Am (by omega)⟩;have aN:=hT.left.at hx;have lx:=hO.out.left.cell hx;have cL:IntKind.i64.wrap (x+1)=x+1:=F5 (by omega) (by omega);have fl:=hO.out.sa i;obtain ⟨W1,aK⟩:=Ex (wr.setCell ⟨w.heap.size,i,none⟩ (.int .i64 (x+1)));have ac:=hO.out.lg i (x+1);rw [<- aK] at ac;obtain ⟨ch,n3,c3,l3,g1,g2,g3,g4,g5⟩:=ac.back.get (i:=kk) (by rw [ac.l2];exact cf);have ci:=(hT.back l3 (Aj g2)).1;have bS:=ac.size;have bi:=ac.back.ne g1 g2;have t:Below W1.heap.size W1 (W1.alloc (.cells #[.int .i64 (i:Int)] 3 (0,0))):=Bn;have bT:=g5.mod (Mod.af (S:=fun _=>False) t) (fun _ _ c=>c);have cw:(W1.alloc (.cells #[.int .i64 (i:Int)] 3 (0,0))).cell? ⟨W1.heap.size,0,none⟩=some (.int .i64 (i:Int)):=Aa (Af _ _) 0;have av:w.heap.size<=(W1.alloc (.cells #[.int .i64 (i:Int)] 3 (0,0))).heap.size:=(by have:=t.size;omega);have bk:Km n i aJ l (j+1)=(st.1.set i (x+1),st.2.set kk (l3++[(i:Int)])):=by rw [o];unfold Pb;rw [Ad ⟨cd,ce⟩,Qu _ _ _ hx,Jw,Qu _ _ _ g2]
       have aZ:∀ w7,(W1.alloc (.cells #[.int .i64 (i:Int)] 3 (0,0))).grownBy w7 (Value.slice ch n3 c3).ownBlock->w7.cell? ⟨w.heap.size+1,kk,none⟩=some (.slice ch n3 c3)/\w7.frozen? ⟨w.heap.size+1,kk,none⟩=false:=fun w7 hg=>by
        have hb:=hg.block (w.heap.size+1) (by have:=t.size;omega) (fun e=>bi e.symm);have cj:=(t.block (w.heap.size+1) bS);exact ⟨(Bp (a:=⟨w.heap.size+1,kk,none⟩) (hb.trans cj)).trans g4,(Ok (a:=⟨w.heap.size+1,kk,none⟩) (hb.trans cj)).trans (ac.back.row.frozenAt kk)⟩
       have bU:=g3.symm;have bs:n3<=1000000000:=(by omega);replace ⟨z,aY,o,ap,hT,aE,aF,hx⟩:=H8 z aY o ap hT aE aF hx;replace ⟨aN,ac,g1,g2,g3,g5,ci,bS⟩:=H8 aN ac g1 g2 g3 g5 ci bS;replace ⟨t,bT,cw,av,bk,bi,aZ,bU⟩:=H8 t bT cw av bk bi aZ bU;replace bs:=Hh bs;go_upto_region 11 with fail;rw [<- aK];have cm:=Hh aK;clear aK lx fl ck;go_wp2_with (at_builtin;refine Mk rfl _ _ rfl w.heap.size n3 _ rfl bT.out bU.out ⟨W1.heap.size,0,none⟩ 1 rfl (i:Int) cw.out bs.out av.out ?_;intro g7 aG w7 h7 al aA;obtain ⟨k7,f7⟩:=aZ.out w7 al;replace ⟨h7,al,aA⟩:=H3 h7 al aA)
       have a0:=ac.out.grow t.out g1.out g2.out al.out h7.out (fun k z=>by
        simp [Value.ownBlock] at z;subst z;rcases aA.out with e | e
        .exact .inl e
        .exact .inr e)
       simp only at a0;rw [<- bk.out] at a0;replace a0:=Hh a0;go_roundw
       case rel=>exact ⟨j+1,_,by go_num,by omega,a0⟩
       case measure=>simp [intOf];omega
      .have aB:Km n i aJ l (j+1)=st:=(by rw [o];unfold Pb;rw [Ac (fun c=>ce c.2)]);rw [<- aB] at hO;replace ⟨z,aY,o,ap,hT,aE,aF,aB⟩:=H8 z aY o ap hT aE aF aB;go_wp2;go_roundw
       case rel=>exact ⟨j+1,_,by go_num,by omega,hO⟩
       case measure=>simp [intOf];omega
     .have aB:Km n i aJ l (j+1)=st:=(by rw [o];unfold Pb;rw [Ac (fun c=>cd c.1)]);rw [<- aB] at hO;replace ⟨z,aY,o,ap,hT,aE,aF,aB⟩:=H8 z aY o ap hT aE aF aB;go_wp2;go_roundw
      case rel=>exact ⟨j+1,_,by go_num,by omega,hO⟩
      case measure=>simp [intOf];omega
    .have bf:¬ (j:Int)<m:=(by omega);have cM:j=m:=(by omega);subst cM;have a0:Hid (gy w n n u (I3 after (i+1)) wr):=(by rw [y.out];exact hO);go_wp2;go_roundw
     case rel=>exact ⟨i+1,_,by go_num,by omega,a0⟩
     case measure=>simp [intOf];omega
  .have b7:¬ (i:Int)<n:=(by omega);have aO:i=n:=(by omega);obtain ⟨st,o⟩:=Ex (I3 after n)
   have hT:Tok n (100000*n) st:=by
    have:=Tok.to (after:=after) (b:=100000) (fun l hl=>by
     obtain ⟨j,hj⟩:=Dr hl;obtain ⟨_,_,_,_,_,_,_,_,_,h6⟩:=h.out.cell j l hj
     exact h6) (i:=n) (by rw [aI.out];exact Nat.le_refl _)
    rw [aI.out] at this;rw [o];exact this
   have ac:Hid (gy w n n u st wr):=(by rw [o];exact aO▸hO);have a9:Ij after = !decide ((Gl st.2 ⟨st.1,Gy st.1 n,[]⟩ (2*n)).out.length<n):=(by unfold Ij Af7;rw [aI.out,<- o]);obtain ⟨left,d⟩:=st;have bv:=ac.out.l1;have bK:=ac.out.l2;simp only at bv bK hT;clear hO bI;have cN:Hid (qd w n n u (left,d) (.slice none 0 0) (Gy left 0) wr):=qd.start ac.out;replace ⟨o,hT,a9,aO,bv,bK,ac⟩:=H7 o hT a9 aO bv bK ac;go_wp2_with fail;go_loopw [10,12,13,66] (fun fv _ _ jv wr=>∃ (j:Nat),jv=.int .i64 j/\j<=n/\Hid (qd w n n u (left,d) fv (Gy left j) wr)) (fun _ _ _ jv _=>n-(intOf jv).toNat)
   case atStart=>exact ⟨0,rfl,Av _,cN⟩
   case round=>
    obtain ⟨j,rfl,b9,hF⟩:=hrel;by_cases hd:j<n
    .have bf:(j:Int)<n:=(by omega);have ca:(0:Int)<=(j:Int):=(by omega);obtain ⟨x,hx⟩:∃ x,left[j]?=some x:=⟨_,Am (by have:=bv.out;omega)⟩;have lx:=hF.out.or.left.cell hx;by_cases bV:x=0
     .subst bV;obtain ⟨fl,aD⟩:=Ex (Gy left j);have y:Gy left (j+1)=fl++[(j:Int)]:=(by rw [aD];show (if (left[j]?).getD 0=0 then _ else _)=_;rw [Gn hx,Ad rfl]);rw [<- aD] at hF;have bO:fl.length<=n:=(by have:=(lu.start left j).2;rw [<- aD] at this;omega);obtain ⟨so,m,c,e,hm⟩:=hF.out.free.len;subst e;have am:=hm.symm;have aC:m<=1000000000:=(by omega);have t:Below wr.heap.size wr (wr.alloc (.cells #[.int .i64 (j:Int)] 3 (0,0))):=Bn;have bW:=hF.out.free.mod (Mod.af (S:=fun _=>False) t) (fun _ _ c=>c);have cw:(wr.alloc (.cells #[.int .i64 (j:Int)] 3 (0,0))).cell? ⟨wr.heap.size,0,none⟩=some (.int .i64 (j:Int)):=Aa (Af _ _) 0;have av:w.heap.size<=(wr.alloc (.cells #[.int .i64 (j:Int)] 3 (0,0))).heap.size:=(by have:=hF.out.or.low.size;have:=t.size;omega);replace ⟨hx,aD,y,bO,hm,am,aC,t⟩:=H8 hx aD y bO hm am aC t;replace ⟨bW,cw,av⟩:=H3 bW cw av;go_wp2_with (at_builtin;refine Mk rfl _ _ rfl w.heap.size m _ rfl bW.out am.out ⟨wr.heap.size,0,none⟩ 1 rfl (j:Int) cw.out aC.out av.out ?_;intro g7 aG w7 h7 al aA;replace ⟨h7,al,aA⟩:=H3 h7 al aA)
      have aP:=hF.out.set t.out (Mod.grown al.out (S:=fun b=>(Value.slice so m c).ownBlock=some b) (fun k z=>z)) h7.out (fun k z=>by
       simp [Value.ownBlock] at z;subst z;rcases aA.out with e | e
       .exact .inl e
       .exact .inr e)
      rw [<- y.out] at aP;replace aP:=Hh aP;go_roundw
      case rel=>exact ⟨j+1,by go_num,by omega,aP⟩
      case measure=>simp [intOf];omega
     .have y:Gy left (j+1)=Gy left j:=(by show (if (left[j]?).getD 0=0 then _ else _)=_;rw [Gn hx,Ac bV]);rw [<- y] at hF;replace ⟨hx,y⟩:=H2 hx y;go_wp2;go_roundw
      case rel=>exact ⟨j+1,by go_num,by omega,hF⟩
      case measure=>simp [intOf];omega
    .have bf:¬ (j:Int)<n:=(by omega);have bX:j=n:=(by omega);have co:Hid (gz w n n u d u10 (.slice none 0 0) (Gl d ⟨left,Gy left n,[]⟩ 0) wr):=(by have:=bX▸hF;exact this.out.q (s:=⟨left,[],[]⟩));have bL:=lu.start left n;have bY:Jq (left,Gy left n)<=2*n:=(by unfold Jq;have:left.countP (fun x=>decide (0<x))<=left.length:=Ux;have:=bv.out;have:=bL.2;simp only;omega);obtain ⟨s0,bw⟩:=Ex ((⟨left,Gy left n,[]⟩:qh));have bZ:Gm (-(100000000*(0:Int))) 100000000 left:=hT.out.left.mono (by omega) (by omega);rw [<- bw] at co;have a1:s0.left=left/\s0.free=Gy left n/\s0.out=[]:=(by rw [bw];exact ⟨rfl,rfl,rfl⟩);have a2:Ij after = !decide ((Gl d s0 (2*n)).out.length<n):=(by rw [a9.out,bw]);clear a9 hF;replace ⟨bL,bY,bw,bZ,a1,a2,bX⟩:=H7 bL bY bw bZ a1 a2 bX;go_wp2_with fail;go_loopg [10,11,14,16,17,18,95] (2*n) (fun gk fv ov _ _ _ _ _ wr=>∃ (p:Nat),p+gk<=2*n/\Hid (gz w n n u d fv ov (Gl d s0 p) wr)/\Hid (lu n (Gl d s0 p).free)/\Hid (Jq ((Gl d s0 p).left,(Gl d s0 p).free)<=gk)/\Hid (Gm (-(100000000*(p:Int))) 100000000 (Gl d s0 p).left)/\Hid ((Gl d s0 p).out.length=p))
     case atStart=>
      refine ⟨0,by omega,co,?_,?_,?_,?_⟩
      .show lu n s0.free;rw [a1.out.2.1];exact bL.out.1
      .show Jq (s0.left,s0.free)<=2*n;rw [a1.out.1,a1.out.2.1];exact bY.out
      .show Gm _ _ s0.left;rw [a1.out.1];exact bZ.out
      .show s0.out.length=0;rw [a1.out.2.2];rfl
     case round=>
      obtain ⟨p,c5,hQ,aQ,a3,a4,aR⟩:=hrel;obtain ⟨s,hs⟩:=Ex (Gl d s0 p);rw [<- hs] at hQ aQ a3 a4 aR;obtain ⟨f,cO,an⟩:=s;simp only at aQ a3 a4 aR
      cases cO with
      | nil=>
       have aH:Ij after = !decide (an.length<n):=(by rw [a2.out,Aga (s:=s0) (p:=p) (by rw [<- hs]) (2*n) (by omega),<- hs]);obtain ⟨so,c,e,_⟩:=hQ.out.free.form;subst e;obtain ⟨a5,m2,c2,e2,am⟩:=hQ.out.out.len;subst e2;have be:=aR.out;have aS:m2=an.length:=am;simp only [Pr];replace ⟨hs,aQ,a3,a4,aR,be⟩:=H6 hs aQ a3 a4 aR be;by_cases b8:m2<n
       .have cp:(m2:Int)<n:=(by omega);have ad:Ij after=false:=(by rw [aH];simp;omega);replace ⟨am,aS,aH,ad⟩:=H4 am aS aH ad;go_wp2;refine Ao (v:=.tuple #[.slice none 0 0,.bool false]) (by simp [results,Tryz.results210,go_sem]) rfl ⟨⟨_,by rw [ad.out]⟩,hQ.out.or.low⟩
       .have cp:¬ (m2:Int)<n:=(by omega);have ad:Ij after=true:=(by rw [aH];simp;omega);replace ⟨am,aS,aH,ad⟩:=H4 am aS aH ad;go_wp2;refine Ao (v:=.tuple #[.slice a5 m2 c2,.bool true]) (by simp [results,Tryz.results210,go_sem]) rfl ⟨⟨_,by rw [ad.out]⟩,hQ.out.or.low⟩
      | cons x r=>
       have aN:=aQ.out.tp x (E2 ..);obtain ⟨xx,rfl⟩:∃ xx:Nat,x=(xx:Int):=⟨x.toNat,by omega⟩;have cZ:(xx:Int)<n:=(by omega);have bV:(0:Int)<=(xx:Int):=(by omega);obtain ⟨g,aL,cap,e,cr,b0,cs,ct,b1⟩:=hQ.out.free.pos (by simp);subst e;obtain ⟨M,hM⟩:=Ex (((xx:Int) :: r).length);rw [<- hM] at hQ b0;have cv:M=r.length+1:=(by rw [hM];rfl);rw [<- hM];have c6:0<M:=(by omega);have c7:(1:Int)<=M:=(by omega);have b7:(1:Int)<=cap:=(by omega);have c0:wr.cell? ⟨g,aL,none⟩=some (.int .i64 (xx:Int)):=b1 0 _ rfl;have bx:r.length<=2*n/\Jq (f,r)+1<=gk:=(by have:=a3.out;unfold Jq at this ⊢;simp only [Jy] at this ⊢;omega);obtain ⟨a5,m2,c2,e2,am⟩:=hQ.out.out.len;subst e2;have be:=aR.out;have aS:m2=an.length:=am;have aC:m2<=1000000000:=(by omega);obtain ⟨cP,bn,cQ,bl,q1,q2,q3,q4,q5⟩:=hQ.out.or.back.get (i:=xx) (by have c8:=bK.out;show xx<d.length;omega);have b3:=(hT.out.back bl (Aj q2));have bA:Hid (gz w n n u d (.slice (some ⟨g,if cap=1 then aL else aL+1,none⟩) r.length (cap-1)) (.slice a5 m2 c2) ⟨f,r,an⟩ wr):=hQ.out.tail rfl;obtain ⟨bP,bB⟩:=b3;have aT:bn<=100000000:=(by omega);have bC:Ak (wr.alloc (.cells #[.int .i64 (xx:Int)] 3 (0,0))) w.heap.size (.slice a5 m2 c2) an:=bA.out.out.mod (Mod.af (S:=fun _=>False) Bn) (fun _ _ c=>c);have cw:(wr.alloc (.cells #[.int .i64 (xx:Int)] 3 (0,0))).cell? ⟨wr.heap.size,0,none⟩=some (.int .i64 (xx:Int)):=Aa (Af _ _) 0;have t:Below wr.heap.size wr (wr.alloc (.cells #[.int .i64 (xx:Int)] 3 (0,0))):=Bn;have av:w.heap.size<=(wr.alloc (.cells #[.int .i64 (xx:Int)] 3 (0,0))).heap.size:=by have:=hQ.out.or.low.size;have:=t.size;omega
       have aZ:∀ w7,(wr.alloc (.cells #[.int .i64 (xx:Int)] 3 (0,0))).grownBy w7 (Value.slice a5 m2 c2).ownBlock->w7.cell? ⟨w.heap.size+1,xx,none⟩=some (.slice cP bn cQ):=fun w7 hg=>by
        obtain ⟨_,cx,cc,cy⟩:=hQ.out.or.back.aq;have cR:=B2 hQ.out.out.row cy (by decide);have hb:=hg.block (w.heap.size+1) (by have:=t.size;omega) (fun e=>cR e.symm);exact (Bp (a:=⟨w.heap.size+1,xx,none⟩) (hb.trans (t.block (w.heap.size+1) cx))).trans q4
       obtain ⟨b4,bD⟩:=Ex (Value.slice (if cap=1 then some ⟨g,aL,none⟩ else some ⟨g,aL+1,none⟩) (M-1) (cap-1))
       have bM:Hid (gz w n n u d b4 (.slice a5 m2 c2) ⟨f,r,an⟩ wr):=by
        have e:b4=.slice (some ⟨g,if cap=1 then aL else aL+1,none⟩) r.length (cap-1):=by
         rw [bD,show M-1=r.length by omega]
         split<;>rfl
        rw [e];exact bA.out
       replace ⟨hs,aQ,a3,a4,aR,aN,cr,b0⟩:=H8 hs aQ a3 a4 aR aN cr b0;replace ⟨cs,ct,b1,hM,cv,bx,be,am⟩:=H8 cs ct b1 hM cv bx be am;replace ⟨aS,aC,q1,q2,q3,q4,q5,bP⟩:=H8 aS aC q1 q2 q3 q4 q5 bP;replace ⟨bB,aT,bA,bC,cw,t,av,aZ⟩:=H8 bB aT bA bC cw t av aZ;replace bM:=Hh bM;go_upto_region 24 with fail;rw [<- bD];clear bD c0 hQ bA;go_wp2_with (at_builtin;refine Mk rfl _ _ rfl w.heap.size m2 _ rfl bC.out aS.out.symm ⟨wr.heap.size,0,none⟩ 1 rfl (xx:Int) cw.out aC.out av.out ?_;intro g7 aG w7 h7 al aA;have k7:=aZ.out w7 al;replace ⟨h7,al,aA⟩:=H3 h7 al aA)
       have cA:=bM.out.tm t.out (Mod.grown al.out (S:=fun b=>(Value.slice a5 m2 c2).ownBlock=some b) (fun k z=>z)) h7.out (fun k z=>by
        simp [Value.ownBlock] at z;subst z;rcases aA.out with e | e
        .exact .inl e
        .exact .inr e)
       have cS:Hid (gz w n n u d b4 (.slice (some ⟨g7,0,none⟩) (m2+1) aG) ⟨(Dx (f,r) bl 0).1,(Dx (f,r) bl 0).2,an++[(xx:Int)]⟩ w7):=cA;have cB:Hid (lu n (Dx (f,r) bl 0).2):=Hh aQ.out.tail;have cC:Hid (Gm (-(100000000*(p:Int))-((0:Nat):Int)) 100000000 (Dx (f,r) bl 0).1):=Hh (show Gm _ _ f from a4.out.mono (by omega) (by omega));have cD:Hid (Jq (Dx (f,r) bl 0)+1<=gk):=Hh bx.out.2;have a6:Si d ⟨f,(xx:Int) :: r,an⟩=⟨(Dx (f,r) bl bn).1,(Dx (f,r) bl bn).2,an++[(xx:Int)]⟩:=(by unfold Si;simp only [Jw,Gn q2.out];rw [<- q3.out]);clear k7 bM cA;replace a6:=Hh a6;go_loopw [10,16,17,18,95] (fun fv _ _ _ jv wr=>∃ (j:Nat),jv=.int .i64 j/\j<=bn/\Hid (gz w n n u d fv (.slice (some ⟨g7,0,none⟩) (m2+1) aG) ⟨(Dx (f,r) bl j).1,(Dx (f,r) bl j).2,an++[(xx:Int)]⟩ wr)/\Hid (lu n (Dx (f,r) bl j).2)/\Hid (Gm (-(100000000*(p:Int))-(j:Int)) 100000000 (Dx (f,r) bl j).1)/\Hid (Jq (Dx (f,r) bl j)+1<=gk)) (fun _ _ _ _ jv _=>bn-(intOf jv).toNat)
       case atStart=>exact ⟨0,rfl,Av _,cS,cB,cC,cD⟩
       case round=>
        obtain ⟨j,rfl,b9,hQ,aU,ba,aV⟩:=hrel;by_cases hd:j<bn
        .have bf:(j:Int)<bn:=(by omega);have ca:(0:Int)<=(j:Int):=(by omega);have cT:=aT.out;have ak:=hQ.out.or.back.each xx _ bl q1.out q2.out;obtain ⟨bg,c1,e⟩:=Joins.ownsRow_form ak.row (by have:=q3.out;omega);injection e with e1 e2 e3;subst e1;clear e2 e3;obtain ⟨k,z⟩:∃ k,bl[j]?=some k:=⟨_,Am (by have:=q3.out;omega)⟩;have cE:=bB.out.at z;obtain ⟨kk,rfl⟩:∃ kk:Nat,k=(kk:Int):=⟨k.toNat,by omega⟩;have cf:kk<n:=(by omega);have cF:(kk:Int)<n:=(by omega);have cG:(0:Int)<=(kk:Int):=(by omega);have ck:=ak.cell z;obtain ⟨st,o⟩:=Ex (Dx (f,r) bl j);have y:Dx (f,r) bl (j+1)=Qt st (kk:Int):=(by rw [o];show Qt _ ((bl[j]?).getD 0)=_;rw [Gn z]);rw [<- o] at hQ aU ba aV;obtain ⟨x,hx⟩:∃ x,st.1[kk]?=some x:=⟨_,Am (by have h9:st.1.length=n:=hQ.out.or.l1;omega)⟩;have aN:=ba.out.at hx;have lx:=hQ.out.or.left.cell hx;have fl:=hQ.out.or.sa kk;have cL:IntKind.i64.wrap (x-1)=x-1:=F5 (by have:=aT.out;omega) (by omega);have hrel:=Asf (st:=st) (k:=(kk:Int)) (x:=x) (by simpa using hx);have bE:=Ase (st:=st) (k:=(kk:Int)) (x:=x) (by simpa using hx);rw [<- y] at hrel bE;obtain ⟨W1,aK⟩:=Ex (wr.setCell ⟨w.heap.size,kk,none⟩ (.int .i64 (x-1)));have aW:=hQ.out.lg kk (x-1);rw [<- aK] at aW;have c9:W1.cell? ⟨w.heap.size,kk,none⟩=some (.int .i64 (x-1)):=aW.or.left.cell (by show (st.1.set kk (x-1))[kk]?=_;rw [Do];have:=(Aq.1 hx).1;simp [this]);have bc:Gm (-(100000000*(p:Int))-((j+1:Nat):Int)) 100000000 (Dx (f,r) bl (j+1)).1:=(by rw [hrel];exact ba.out.set (by omega) (by omega) (by omega) (by omega));have bd:Jq (Dx (f,r) bl (j+1))+1<=gk:=(by have:=aV.out;omega);replace ⟨ak,z,cE,o,y,hx,aN,hrel⟩:=H8 ak z cE o y hx aN hrel;replace ⟨bE,aW,bc,bd,hQ⟩:=H5 bE aW bc bd hQ;go_upto_region 29 with fail;rw [<- aK];have cm:=Hh aK;clear aK ck lx fl;by_cases cU:x=1
         .subst cU;obtain ⟨cH,aX⟩:=Ex (st.2.countP (·<(kk:Int)));have aD:st.2.length<=1000000:=(by have:=aV.out;unfold Jq at this;omega);have bF:C4 W1 w.heap.size u10 st.2:=aW.out.free;have bN:=As5 bF aU.out.bh (kk:Int) aD;rw [<- aX] at bN;have bG:∀ q,Below W1.heap.size W1 ((W1.drewN q).alloc (.cells #[.int .i64 (kk:Int)] 3 (0,0))):=fun q=>(A8 _ W1 q).alloc Ln _
          have aO:∀ q,Calls Tryz.prog 265 #[u10,.int .i64 (cH:Int),.slice (some ⟨W1.heap.size,0,none⟩) 1 1] ((W1.drewN q).alloc (.cells #[.int .i64 (kk:Int)] 3 (0,0))) (Wk ((W1.drewN q).alloc (.cells #[.int .i64 (kk:Int)] 3 (0,0))) w.heap.size u10 (fk (kk:Int) st.2)):=fun q=>by
           have h9:=bF.mod (Mod.af (S:=fun _=>False) (bG q)) (fun _ _ c=>c);have:=Ar4 h9 (kk:Int) cH (by rw [aX];exact Ux) aD W1.heap.size (Af _ _) (fun e=>by have:=(bF.lt _ e).2;omega) (by have:=aW.out.or.low.size;have:=(bG q).size;omega);unfold fk;rw [<- aX];exact this
          unfold Wk at aO;replace ⟨aX,aD,bF,bN,aO,bG⟩:=H6 aX aD bF bN aO bG
          go_wp2_with (first
           | (go_at_call 264;(with_reducible refine bN.out.mono ?_);rintro e w8 ⟨⟨bb,rfl⟩,q,rfl⟩)
           | (go_at_call 265;(with_reducible refine (aO.out _).mono ?_);rintro e w9 ⟨v9,rfl,b5,aC,b6⟩;replace ⟨b5,aC,b6⟩:=H3 b5 aC b6))
          have hF:=aW.out.qq (bG.out q) aC.out b5.out (fun k z=>by
           rcases b6.out with e | e
           .exact .inl (e▸z)
           .rw [e] at z;injection z with z
            exact .inr z.symm)
          have aP:Hid (gz w n n u d v9 (.slice (some ⟨g7,0,none⟩) (m2+1) aG) ⟨(Dx (f,r) bl (j+1)).1,(Dx (f,r) bl (j+1)).2,an++[(xx:Int)]⟩ w9):=(by rw [hrel.out,Ad (by omega)];exact hF);have bH:Hid (lu n (Dx (f,r) bl (j+1)).2):=(by rw [hrel.out,Ad (by omega)];exact aU.out.ins cG cF);clear hF;go_roundw
          case rel=>exact ⟨j+1,by go_num,by omega,aP,bH,bc,bd⟩
          case measure=>simp [intOf];omega
         .have cI:¬ x-1=0:=(by omega);have aP:Hid (gz w n n u d u10 (.slice (some ⟨g7,0,none⟩) (m2+1) aG) ⟨(Dx (f,r) bl (j+1)).1,(Dx (f,r) bl (j+1)).2,an++[(xx:Int)]⟩ W1):=(by rw [hrel.out,Ac cI];exact aW.out);have bH:Hid (lu n (Dx (f,r) bl (j+1)).2):=(by rw [hrel.out,Ac cI];exact aU.out);go_wp2_with fail;go_roundw
          case rel=>exact ⟨j+1,by go_num,by omega,aP,bH,bc,bd⟩
          case measure=>simp [intOf];omega
        .have bf:¬ (j:Int)<bn:=(by omega);have cV:j=bn:=(by omega);have a7:Gl d s0 (p+1)=⟨(Dx (f,r) bl bn).1,(Dx (f,r) bl bn).2,an++[(xx:Int)]⟩:=(by show Si d (Gl d s0 p)=_;rw [<- hs.out];exact a6.out);have da:=aV.out;have cT:=aT.out;replace a7:=Hh a7;go_wp2;go_roundg (gk-1)
         case measure=>omega
         case rel=>
          have e:=cV;refine ⟨p+1,by omega,?_,?_,?_,?_,?_⟩
          .rw [a7.out,<- e];exact hQ
          .rw [a7.out,<- e];exact aU
          .rw [a7.out,<- e];exact Hh (by have:=aV.out;show Jq (Dx (f,r) bl j)<=gk-1;omega)
          .rw [a7.out,<- e];exact Hh (ba.out.mono (by omega) (by omega))
          .rw [a7.out];exact Hh (by have:=be.out;simp;omega)
def As7 (f:Option Addr) (n c:Nat) (after:List (List Int)) (w:World) (h:Qv w f n after) :
  Calls Tryz.prog 156 #[.slice f n c] w fun e w'=>e=.returned (.bool (!Ij after))/\Below w.heap.size w w':=by
 have d:=As6 f n c after w h;obtain ⟨b,g⟩:=Ex (Ij after);rw [<- g] at d ⊢;replace ⟨h,d,g⟩:=H3 h d g;go_enter Tryz.func156,Tryz.ntmps156;go_wp2_with (go_at_call 210;(with_reducible refine d.out.mono ?_);rintro e w1 ⟨⟨v,rfl⟩,a⟩;replace a:=Hh a)
 all_goals
  go_ret;exact ⟨by first | rfl | simp_all,a.out⟩
end Go.Proofs.YtimlcnhcjndijaaGreatDoor
