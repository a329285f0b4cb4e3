/- Parts of a proof. No condition. -/
import Derived.Test.YtimlcnhcjndijaaGreatDoorJ27
import Derived.Test.YtimlcnhcjndijaaGreatDoorJ30
import Derived.Test.YtimlcnhcjndijaaGreatDoorJ31
set_option linter.all false
set_option maxRecDepth 100000
set_option maxHeartbeats 4000000
namespace Go.Proofs.YtimlcnhcjndijaaGreatDoor
open Option renaming some->O,none->I
open Value renaming slice->V,int->Z,bool->Q,tuple->E
open IntKind renaming i64->G
open Obj renaming cells->J
open Ending renaming returned->Y
open Go renaming World->WD,Value->VL,Calls->CS
open Go.RowKit renaming Below->BW
open Go.Proofs.Tryz
section
open Go.RowKit Go.Maps Go.Lib
structure Ru (w:WD) (ao:Option Addr) (n:Nat) (ls:List (List Int)):Prop where
 len:ls.length=n
 max:n<=1000
 cell:∀i l,ls[i]?=O l->∃b off so sc,ao=O ⟨b,off,I⟩/\b<w.heap.size/\w.cell? ⟨b,off+i,I⟩=O (V so l.length sc)/\At w so l.length l/\l.length<=sc/\l.length<=100000
def Ru.get {w:WD} {b:Option Addr} {n:Nat} {a:List (List Int)} (h:Ru w b n a) {i:Nat} (c:i<n):∃l,a[i]?=O l:=⟨a[i]'(by rw[h.len];exact c),A3 _⟩
structure jk (w:WD) (n bc:Nat) (svs:List VL) (st:List Int×List (List Int)) (wr:WD):Prop where
 low:BW w.heap.size w wr
 left:Am wr w.heap.size (V (O ⟨w.heap.size,0,I⟩) n n) st.1
 back:Dg wr w.heap.size (w.heap.size+1) bc svs st.2
 ne:∀(i:Nat) (sv:VL),svs[i]?=O sv->sv.ownBlock≠O w.heap.size
 l1:st.1.length=n
 l2:st.2.length=n
variable {w wr w1:WD} {n bc:Nat} {svs:List VL} {st:List Int×List (List Int)}
def jk.uq (h:jk w n bc svs st wr) (o:Nat):wr.frozen? ⟨w.heap.size,o,I⟩=false:=by
 obtain⟨c,a,_⟩:=C7 h.left.row (g:=w.heap.size) rfl;exact Ag a o
def jk.size (h:jk w n bc svs st wr):w.heap.size+1<wr.heap.size:=h.back.au.2.1
def jk.drop (h:jk w n bc svs st wr) (a:BW wr.heap.size wr w1):jk w n bc svs st w1:=
 ⟨h.low.trans (a.mono h.low.size),h.left.mod (Mod.af (S:=λ_=>False) a) (λ_ _ c=>c),h.back.low a,h.ne,h.l1,h.l2⟩
def jk.fy (h:jk w n bc svs st wr) (i:Nat) (y:Int):jk w n bc svs (st.1.set i y,st.2) (wr.setCell ⟨w.heap.size,i,I⟩ (Z G y)):=by
 have d:Mod (λk=>k=w.heap.size) wr (wr.setCell ⟨w.heap.size,i,I⟩ (Z G y)):=Mod.setCell wr w.heap.size i _ rfl;refine⟨Cr h.low Ln,⟨?_⟩,h.back.off d ao9 (λj f b k c e=>h.ne j f b (by rw[c,e])),h.ne,by rw[Dy];exact h.l1,h.l2⟩;have a:=h.left.row;rw[h.l1]at a;have:=(a.stored i (Z G y)).1;rw[Dy,h.l1];have e:Bz (st.1.set i y)=(Bz st.1).set i (Z G y):=by simp[Bz,Nx]
 rw[e];exact this
def jk.grow (h:jk w n bc svs st wr) (q:BW wr.heap.size wr w1) {w2:WD} {i:Nat} {c f:VL} {l l':List Int} (g:svs[i]?=O c) (r:st.2[i]?=O l) (m:w1.grownBy w2 c.ownBlock) (t:Am w2 w.heap.size f l')
  (p:∀k,f.ownBlock=O k->c.ownBlock=O k\/k=w1.heap.size):jk w n bc (svs.set i f) (st.1,st.2.set i l') (w2.setCell ⟨w.heap.size+1,i,I⟩ f):=by
 have h1:=h.drop q;have d:=h1.back.put g r m t p;have o:=(h1.back.each i c l g r).lt;have x:=h.size;have v:=q.size;refine⟨Cr ?_ ao9,?_,d,?_,h.l1,by rw[Dy];exact h.l2⟩
 .exact h1.low.grown m h1.low.size (λk a=>(o k a).1)
 .have s:=Mod.grown m (λk a=>a);exact(h1.left.mod s (λk a e=>by simp[Value.ownBlock]at a;subst a;exact h.ne i c g e)).mod (Mod.setCell (S:=λk=>k=w.heap.size+1) w2 (w.heap.size+1) i f rfl) (λk a e=>by simp[Value.ownBlock]at a;omega)
 .intro j u b e;rw[D3]at b;split at b
  .split at b
   .injection b with b;subst b;rcases p _ e with e|e
    .exact h.ne i c g e
    .omega
   .cases b
  .exact h.ne j u b e
structure jj (w:WD) (n bc:Nat) (svs:List VL) (back:List (List Int)) (fv ov:VL) (s:sj) (wr:WD):Prop where
 or:jk w n bc svs (s.left,back) wr
 free:Ds wr w.heap.size fv s.free
 out:Am wr w.heap.size ov s.out
 f0:fv.ownBlock≠O w.heap.size
 fs:∀(i:Nat) (sv:VL),svs[i]?=O sv->∀k,fv.ownBlock=O k->sv.ownBlock≠O k
 o0:ov.ownBlock≠O w.heap.size
 os:∀(i:Nat) (sv:VL),svs[i]?=O sv->∀k,ov.ownBlock=O k->sv.ownBlock≠O k
 fo:∀k,fv.ownBlock=O k->ov.ownBlock≠O k
variable {back:List (List Int)} {fv ov fv' ov':VL} {s:sj} {w2:WD} {l':List Int}
def Ds.vj {v:VL} {l:List Int} {B b:Nat} {c:Array VL} (h:Ds w B v l) (a:w.heap[b]?=O (J c 31 (0,0))):v.ownBlock≠O b:=λe=>by
 obtain⟨f,d⟩:=h.au e;rw[d]at a;injection a with a;injection a with _ a;exact absurd a ad9
def jj.drop (h:jj w n bc svs back fv ov s wr) (a:BW wr.heap.size wr w1):jj w n bc svs back fv ov s w1:=
 ⟨h.or.drop a,h.free.mod (Mod.af (S:=λ_=>False) a) (λ_ _ c=>c),h.out.mod (Mod.af (S:=λ_=>False) a) (λ_ _ c=>c),h.f0,h.fs,h.o0,h.os,h.fo⟩
def jj.fy (h:jj w n bc svs back fv ov s wr) (i:Nat) (y:Int):jj w n bc svs back fv ov ⟨s.left.set i y,s.free,s.out⟩ (wr.setCell ⟨w.heap.size,i,I⟩ (Z G y)):=
 have b:Mod (λk=>k=w.heap.size) wr (wr.setCell ⟨w.heap.size,i,I⟩ (Z G y)):=Mod.setCell wr w.heap.size i _ rfl
 ⟨h.or.fy (st:=(s.left,back)) i y,h.free.mod b (λk a e=>h.f0 (by rw[a,e])),h.out.mod b (λk a e=>h.o0 (by rw[a,e])),h.f0,h.fs,h.o0,h.os,h.fo⟩
def jk.jz (h:jk w n bc svs st wr) {S:Nat->Prop} (a:Mod S wr w1) (h0:¬S w.heap.size) (h1:¬S (w.heap.size+1)) (f:∀(i:Nat) (d:VL),svs[i]?=O d->∀k,d.ownBlock=O k->¬S k) (e:∀k,S k->w.heap.size<=k):jk w n bc svs st w1:=
 ⟨⟨a.os.trans h.low.os,a.tape.trans h.low.tape,a.output.trans h.low.output,A8 h.low.size a.size,λk b=>(a.block k (Bq b h.low.size) (λc=>by have:=e k c;omega)).trans (h.low.block k b)⟩,
  h.left.mod a (λk b=>by simp[Value.ownBlock]at b;subst b;exact h0),h.back.off a h1 f,h.ne,h.l1,h.l2⟩
def jj.tr (h:jj w n bc svs back fv ov s wr) (m:BW wr.heap.size wr w1) (l:Mod (λb=>fv.ownBlock=O b) w1 w2) (r:Ds w2 w.heap.size fv' l') (g:∀k,fv'.ownBlock=O k->fv.ownBlock=O k\/k=w1.heap.size):jj w n bc svs back fv' ov ⟨s.left,l',s.out⟩ w2:=by
 have h1:=h.drop m;obtain⟨t,q,c,p⟩:=h1.or.back.au;refine⟨h1.or.jz l h.f0 (h1.free.vj p) (λi f d k a e=>h.fs i f d k e a) (λk a=>(h.free.lt k a).1),r,h1.out.mod l (λk a e=>h.fo k e a),λe=>?_,λi f d k a e=>?_,h.o0,h.os,λk a e=>?_⟩
 .rcases g _ e with e|e
  .exact h.f0 e
  .omega
 .rcases g k a with c|c
  .exact h.fs i f d k c e
  .have j:i<back.length:=(by have o:svs.length=back.length:=h.or.back.len;have:=(An.1 d).1;omega);have:=((h1.or.back.each i f _ d (A3 j)).lt k e).2;omega
 .rcases g k a with c|c
  .exact h.fo k c e
  .have:=(h1.out.lt k e).2;omega
def jj.vm (h:jj w n bc svs back fv ov s wr) (m:BW wr.heap.size wr w1) (l:Mod (λb=>ov.ownBlock=O b) w1 w2) (r:Am w2 w.heap.size ov' l') (g:∀k,ov'.ownBlock=O k->ov.ownBlock=O k\/k=w1.heap.size):jj w n bc svs back fv ov' ⟨s.left,s.free,l'⟩ w2:=by
 have h1:=h.drop m;obtain⟨t,q,c,p⟩:=h1.or.back.au;refine⟨h1.or.jz l h.o0 (Bv h1.out.row p ad9) (λi f d k a e=>h.os i f d k e a) (λk a=>(h.out.lt k a).1),h1.free.mod l (λk a e=>h.fo k a e),r,h.f0,h.fs,λe=>?_,λi f d k a e=>?_,λk a e=>?_⟩
 .rcases g _ e with e|e
  .exact h.o0 e
  .omega
 .rcases g k a with c|c
  .exact h.os i f d k c e
  .have j:i<back.length:=(by have o:svs.length=back.length:=h.or.back.len;have:=(An.1 d).1;omega);have:=((h1.or.back.each i f _ d (A3 j)).lt k e).2;omega
 .rcases g k e with c|c
  .exact h.fo k a c
  .have:=(h1.free.lt k a).2;omega
def jj.tail {g a m cap:Nat} {x:Int} {l:List Int} (h:jj w n bc svs back (V (O ⟨g,a,I⟩) m cap) ov s wr) (c:s.free=x :: l):jj w n bc svs back (V (O ⟨g,if cap=1 then a else a+1,I⟩) l.length (cap-1)) ov ⟨s.left,l,s.out⟩ wr:=by
 have b:=h.free;rw[c]at b;exact⟨h.or,b.tail,h.out,h.f0,h.fs,h.o0,h.os,h.fo⟩
structure se (w:WD) (n bc:Nat) (svs:List VL) (st:List Int×List (List Int)) (fv:VL) (l:List Int) (wr:WD):Prop where
 or:jk w n bc svs st wr
 free:Am wr w.heap.size fv l
 f0:fv.ownBlock≠O w.heap.size
 fs:∀(i:Nat) (sv:VL),svs[i]?=O sv->∀k,fv.ownBlock=O k->sv.ownBlock≠O k
def se.start (h:jk w n bc svs st wr):se w n bc svs st (V I 0 0) [] wr:=
 ⟨h,Am.nil _ _,by simp[Value.ownBlock],λ_ _ _ k a=>by simp[Value.ownBlock]at a⟩
def se.q {l:List Int} (h:se w n bc svs (s.left,back) fv l wr):jj w n bc svs back fv (V I 0 0) ⟨s.left,l,[]⟩ wr:=
 ⟨h.or,Ds.of h.free,Am.nil _ _,h.f0,h.fs,by simp[Value.ownBlock],λ_ _ _ k a=>by simp[Value.ownBlock]at a,λk a=>by simp[Value.ownBlock]⟩
def se.set {l:List Int} (h:se w n bc svs st fv l wr) (m:BW wr.heap.size wr w1) (s:Mod (λb=>fv.ownBlock=O b) w1 w2) (t:Am w2 w.heap.size fv' l') (j:∀k,fv'.ownBlock=O k->fv.ownBlock=O k\/k=w1.heap.size):se w n bc svs st fv' l' w2:=by
 have h1:=h.or.drop m;have o:=h.free.mod (Mod.af (S:=λ_=>False) m) (λ_ _ c=>c);obtain⟨u,r,c,q⟩:=h1.back.au;refine⟨h1.jz s h.f0 (Bv o.row q ad9) (λi f a k d e=>h.fs i f a k e d) (λk d=>(o.lt k d).1),t,λe=>?_,λi f a k d e=>?_⟩
 .rcases j _ e with e|e
  .exact h.f0 e
  .omega
 .rcases j k d with c|c
  .exact h.fs i f a k c e
  .have g:i<st.2.length:=(by have p:=h.or.back.len;have:=(An.1 a).1;omega);have:=((h1.back.each i f _ a (A3 g)).lt k e).2;omega
def Ayq {v:VL} {l:List Int} {B:Nat} (h:Ds w B v l) (i:l.Pairwise (·<=·)) (k:Int) (m:l.length<=1000000) :
  CS prog 264 #[v,Z G k] w λe w'=>(∃b,e=Y (E #[Z G (l.countP (·<k):Nat),Q b]))/\∃q,w'=w.drewN q:=by
 by_cases h0:l=[]
 .obtain ⟨so,c,rfl,_⟩:=h.form;subst h0;refine(Tryz.slices_BinarySearch_int_empty so c k w).mono ?_;rintro e w' ⟨rfl,rfl⟩;exact⟨⟨_,rfl⟩,0,rfl⟩
 .obtain ⟨g,a,cap,rfl,_,_,_,_,f⟩:=h.pos (Wm.2 h0);refine(Tryz.slices_BinarySearch_int g a l.length cap l k w Ln ao9 (λj d=>by rw[f j l[j] (A3 d)];simp[List.getD,d]) (by rw[Pu];exact i)).mono ?_;rintro e w' ⟨rfl,q⟩;rw[Pu];exact⟨⟨_,rfl⟩,q⟩
end
section
open Go.RowKit Go.Maps Go.Lib
def Alb:(prog.info? 31).map (λi=>(i.zero,i.size,i.bytes))=O (O (V I 0 0),1,24):=by kernel_rfl
def Alc (z:VL) (b:z.cells=#[z]) (n:Nat):madeCells z.cells n=(List.replicate n z).toArray:=by
 apply Aa2.1;apply Eh;intro j;by_cases a:j<n
 .simp [madeCells,b,a,Nat.mod_one]
 .simp [madeCells,b,a]
def Ald (n:Nat) (d:n<=1000000):∀w:WD,(Instr.makeSlice 31 (Z G (n:Int)) (Z G (n:Int))).run prog w=.ok (V (O ⟨w.heap.size,0,I⟩) n n) (w.alloc (J (List.replicate n (Value.int G 0)).toArray 3 (0,0))):=by
 intro w;obtain⟨i,b,c,h1,a⟩:=Cf M0;have:=run_make (P:=prog) w 31 3 i _ Ns b c G G n n ao9 ao9 (by rw[a];omega) ao9;rw[this];simp only[K7,h1,Sh];rw[Alc _ rfl]
def Ale (n:Nat) (d:n<=1000000):∀w:WD,(Instr.makeSlice 137 (Z G (n:Int)) (Z G (n:Int))).run prog w=.ok (V (O ⟨w.heap.size,0,I⟩) n n) (w.alloc (J (List.replicate n (Value.slice I 0 0)).toArray 31 (0,0))):=by
 intro w;obtain⟨i,b,c,h1,a⟩:=Cf Alb;have:=run_make (P:=prog) w 137 31 i _ underlying137 b c G G n n ao9 ao9 (by rw[a];omega) ao9;rw[this];simp only[K7,h1,Sh];rw[Alc _ rfl]
def Dg.made (w:WD) (B n:Nat) (f:B<=w.heap.size) (m:n<=1000000):Dg (w.alloc (J (List.replicate n (Value.slice I 0 0)).toArray 31 (0,0))) B w.heap.size n (List.replicate n (Value.slice I 0 0)) (List.replicate n []):=by
 refine⟨?_,λi o l h1 e=>?_,?_,as9⟩
 .rw [Aal];exact World.ownsRow_lit w (List.replicate n (Value.slice I 0 0)).toArray n f (by unfold maxLen;omega) as9
 .have c:=R5 (Ai h1);have d:=R5 (Ai e);subst c d;exact Am.nil _ _
 .refine L1.2 λa b h j _ k g=>?_;simp[Value.ownBlock]at g
def Am.made (w:WD) (B n:Nat) (a:B<=w.heap.size) (b:n<=1000000):Am (w.alloc (J (List.replicate n (Value.int G 0)).toArray 3 (0,0))) B (V (O ⟨w.heap.size,0,I⟩) n n) (List.replicate n 0):=by
 refine⟨?_⟩;have:=World.ownsRow_lit (base:=B) (e:=3) (size:=1) w (List.replicate n (Value.int G 0)).toArray n a (by unfold maxLen;omega) as9;rw[Aal];simpa[Bz]using this
def Ayr (ao:Option Addr) (n c:Nat) (after:List (List Int)) (w:WD) (h:Ru w ao n after) :
  CS prog 210 #[V ao n c] w λe w'=>(∃v,e=Y (E #[v,Q (Kf after)]))/\BW w.heap.size w w':=by
 have hn:=h.max;have aJ:=h.len;have cT:=Ald n ao9;have cU:=Ale n ao9
 have bG:jk w n n (List.replicate n (V I 0 0)) (Ke after 0) ((w.alloc (J (List.replicate n (Value.int G 0)).toArray 3 (0,0))).alloc (J (List.replicate n (Value.slice I 0 0)).toArray 31 (0,0))):=by
  have h1:=Am.made w w.heap.size n Ln ao9;have h2:=Dg.made (w.alloc (J (List.replicate n (Value.int G 0)).toArray 3 (0,0))) w.heap.size n as9 ao9;have e:Ke after 0=(List.replicate n 0,List.replicate n []):=by simp[Ke,aJ]
  rw[e];refine⟨Bn.alloc as9 _,h1.mod (Mod.alloc (λ_=>False) _ _) (λ_ _ c=>c),by simpa using h2,λi sv hi=>?_,as9,as9⟩;have e1:=R5 (Ai hi);subst e1;simp[Value.ownBlock]
 replace⟨h,bG,aJ⟩:=H3 h bG aJ;go_enter func210,ntmps210;go_wp2_with fail;go_loopw [6,7,9,27,34] (λ_ _ _ iv _ wr=>∃(i:Nat) (u:List VL),iv=Z G i/\i<=n/\Hid (jk w n n u (Ke after i) wr)) (λ_ _ _ iv _ _=>n-(intOf iv).toNat)
 case atStart=>exact⟨0,_,rfl,As _,bG⟩
 case round=>
  obtain⟨i,u,rfl,cK,hO⟩:=hrel;by_cases hc:i<n
  .have cd:(i:Int)<n:=ao9;have c1:(0:Int)<=(i:Int):=ao9;obtain⟨l,hl⟩:=h.out.get hc;obtain⟨b,aX,so,sc,rfl,cx,bF,aR,bZ,cN⟩:=h.out.cell i l hl;obtain⟨m,hm⟩:=Ex (l.length);rw[<-hm]at bF aR bZ cN;have cl:=(Af hO.out.low cx).trans bF;have z:Ke after (i+1)=Lu n i (Ke after i) l m:=(by show Lu after.length i (Ke after i) ((after[i]?).getD []) ((after[i]?).getD []).length=_;rw[aJ.out,Iq hl,<-hm]);obtain⟨aK,bc⟩:=Ex (Ke after i)
   have bP:Tok n (100000*i) aK:=by
    have:=Tok.to (after:=after) (b:=100000) (λl hl=>by
     obtain⟨j,hj⟩:=B4 hl;obtain⟨_,_,_,_,_,_,_,_,_,h6⟩:=h.out.cell j l hj
     exact h6) (i:=i) (by rw[aJ.out];exact cK)
    rw[aJ.out]at this;rw[bc];exact this
   rw[<-bc]at z hO;replace⟨hl,hm,z,bc,bP,aR,bZ,bF⟩:=H8 hl hm z bc bP aR bZ bF;go_wp2_with fail;clear cl;go_loopw [9,34] (λ_ jv wr=>∃(j:Nat) (u:List VL),jv=Z G j/\j<=m/\Hid (jk w n n u (Lu n i aK l j) wr)) (λ_ jv _=>m-(intOf jv).toNat)
   case atStart=>exact⟨0,_,rfl,As _,hO⟩
   case round=>
    obtain⟨j,u,rfl,cm,hO⟩:=hrel;by_cases hd:j<m
    .have bo:(j:Int)<m:=ao9;have cj:(0:Int)<=(j:Int):=ao9;obtain⟨k,y⟩:∃k,l[j]?=O k:=aR.out.get hd;obtain⟨b2,cW,rfl,cA,aY⟩:=aR.out.cell j k y;have ck:=(Af hO.out.low cA).trans aY;have o:Lu n i aK l (j+1)=Qm n i (Lu n i aK l j) k:=(by show Qm n i (Lu n i aK l j) ((l[j]?).getD 0)=_;rw[Iq y]);have hT:=bP.out.row hc l j;obtain⟨st,aC⟩:=Ex (Lu n i aK l j);rw[<-aC]at o hO hT;have aF:=hO.out.l1;have aG:=hO.out.l2;by_cases co:0<=k
     .by_cases cv:k<(n:Int)
      .obtain ⟨kk,rfl⟩:∃kk:Nat,k=(kk:Int):=⟨k.toNat,ao9⟩;have cr:kk<n:=ao9;obtain⟨x,hx⟩:=Ge st.1 i ao9;have aW:=hT.left.at hx;have lx:=hO.out.left.cell hx;have cP:IntKind.i64.wrap (x+1)=x+1:=Ja ao9 ao9;have fl:=hO.out.uq i;obtain⟨W1,aI⟩:=Ex (wr.setCell ⟨w.heap.size,i,I⟩ (Z G (x+1)));have ac:=hO.out.fy i (x+1);rw[<-aI]at ac;obtain⟨cE,n3,c3,l3,g1,g2,g3,g4,g5⟩:=ac.back.get (i:=kk) (by rw[ac.l2];exact cr);have ca:=(hT.back l3 (Ai g2)).1;have b0:=ac.size;have bw:=ac.back.ne g1 g2;have t:BW W1.heap.size W1 (W1.alloc (J #[Z G (i:Int)] 3 (0,0))):=Bn;have bO:=g5.mod (Mod.af (S:=λ_=>False) t) (λ_ _ c=>c);have cw:(W1.alloc (J #[Z G (i:Int)] 3 (0,0))).cell? ⟨W1.heap.size,0,I⟩=O (Z G (i:Int)):=Aa (Ah _ _) 0;have ap:w.heap.size<=(W1.alloc (J #[Z G (i:Int)] 3 (0,0))).heap.size:=(by have:=t.size;omega);have bC:Lu n i aK l (j+1)=(st.1.set i (x+1),st.2.set kk (l3++[(i:Int)])):=by rw[o];unfold Qm;rw[Ad ⟨co,cv⟩,Rt _ _ _ hx,K7,Rt _ _ _ g2]
       have a3:∀w7,(W1.alloc (J #[Z G (i:Int)] 3 (0,0))).grownBy w7 (Value.slice cE n3 c3).ownBlock->w7.cell? ⟨w.heap.size+1,kk,I⟩=O (V cE n3 c3)/\w7.frozen? ⟨w.heap.size+1,kk,I⟩=false:=λw7 hg=>by
        have hb:=hg.block (w.heap.size+1) (by have:=t.size;omega) (λe=>bw e.symm);have b9:=(t.block (w.heap.size+1) b0);exact⟨(By (a:=⟨w.heap.size+1,kk,I⟩) (hb.trans b9)).trans g4,(Po (a:=⟨w.heap.size+1,kk,I⟩) (hb.trans b9)).trans (ac.back.row.frozenAt kk)⟩
       have bV:=g3.symm;have bi:n3<=1000000000:=ao9;replace⟨y,aY,o,aC,hT,aF,aG,hx⟩:=H8 y aY o aC hT aF aG hx;replace⟨aW,ac,g1,g2,g3,g5,ca,b0⟩:=H8 aW ac g1 g2 g3 g5 ca b0;replace⟨t,bO,cw,ap,bC,bw,a3,bV⟩:=H8 t bO cw ap bC bw a3 bV;replace bi:=Hh bi;go_upto_region 11 with fail;rw[<-aI];have b8:=Hh aI;clear aI lx fl ck;go_wp2_with (at_builtin;refine Nm rfl _ _ rfl w.heap.size n3 _ rfl bO.out bV.out ⟨W1.heap.size,0,I⟩ 1 rfl (i:Int) cw.out bi.out ap.out ?_;intro g7 aE w7 h7 al av;obtain⟨k7,f7⟩:=a3.out w7 al;replace⟨h7,al,av⟩:=H3 h7 al av)
       have aZ:=ac.out.grow t.out g1.out g2.out al.out h7.out (λk y=>by
        simp[Value.ownBlock]at y;subst y;rcases av.out with e|e
        .exact .inl e
        .exact .inr e)
       simp only at aZ;rw[<-bC.out]at aZ;replace aZ:=Hh aZ;go_roundw
       case rel=>exact⟨j+1,_,by go_num,ao9,aZ⟩
       case measure=>simp[intOf];omega
      .have aB:Lu n i aK l (j+1)=st:=(by rw[o];unfold Qm;rw[Ac (λc=>cv c.2)]);rw[<-aB]at hO;replace⟨y,aY,o,aC,hT,aF,aG,aB⟩:=H8 y aY o aC hT aF aG aB;go_wp2;go_roundw
       case rel=>exact⟨j+1,_,by go_num,ao9,hO⟩
       case measure=>simp[intOf];omega
     .have aB:Lu n i aK l (j+1)=st:=(by rw[o];unfold Qm;rw[Ac (λc=>co c.1)]);rw[<-aB]at hO;replace⟨y,aY,o,aC,hT,aF,aG,aB⟩:=H8 y aY o aC hT aF aG aB;go_wp2;go_roundw
      case rel=>exact⟨j+1,_,by go_num,ao9,hO⟩
      case measure=>simp[intOf];omega
    .have bo:¬(j:Int)<m:=ao9;have cM:j=m:=ao9;subst cM;have aZ:Hid (jk w n n u (Ke after (i+1)) wr):=(by rw[z.out];exact hO);go_wp2;go_roundw
     case rel=>exact⟨i+1,_,by go_num,ao9,aZ⟩
     case measure=>simp[intOf];omega
  .have cd:¬(i:Int)<n:=ao9;have aS:i=n:=ao9;obtain⟨st,o⟩:=Ex (Ke after n)
   have hT:Tok n (100000*n) st:=by
    have:=Tok.to (after:=after) (b:=100000) (λl hl=>by
     obtain⟨j,hj⟩:=B4 hl;obtain⟨_,_,_,_,_,_,_,_,_,h6⟩:=h.out.cell j l hj
     exact h6) (i:=n) (by rw[aJ.out];exact Nat.le_refl _)
    rw[aJ.out]at this;rw[o];exact this
   have ac:Hid (jk w n n u st wr):=(by rw[o];exact aS▸hO);have ba:Kf after = !decide ((Io st.2 ⟨st.1,Jc st.1 n,[]⟩ (2*n)).out.length<n):=(by unfold Kf Ak2;rw[aJ.out,<-o]);obtain⟨left,d⟩:=st;have bv:=ac.out.l1;have bK:=ac.out.l2;simp only at bv bK hT;clear hO bG;have cH:Hid (se w n n u (left,d) (V I 0 0) (Jc left 0) wr):=se.start ac.out;replace⟨o,hT,ba,aS,bv,bK,ac⟩:=H7 o hT ba aS bv bK ac;go_wp2_with fail;go_loopw [10,12,13,66] (λfv _ _ jv wr=>∃(j:Nat),jv=Z G j/\j<=n/\Hid (se w n n u (left,d) fv (Jc left j) wr)) (λ_ _ _ jv _=>n-(intOf jv).toNat)
   case atStart=>exact⟨0,rfl,As _,cH⟩
   case round=>
    obtain⟨j,rfl,cm,hF⟩:=hrel;by_cases hd:j<n
    .have bo:(j:Int)<n:=ao9;have cj:(0:Int)<=(j:Int):=ao9;obtain⟨x,hx⟩:=Ge left j (by have:=bv.out;omega);have lx:=hF.out.or.left.cell hx;by_cases b3:x=0
     .subst b3;obtain⟨fl,aD⟩:=Ex (Jc left j);have z:Jc left (j+1)=fl++[(j:Int)]:=(by rw[aD];show(if (left[j]?).getD 0=0 then _ else _)=_;rw[Iq hx,Ad rfl]);rw[<-aD]at hF;have bM:fl.length<=n:=(by have:=(mu.start left j).2;rw[<-aD]at this;omega);obtain⟨so,m,c,e,hm⟩:=hF.out.free.len;subst e;have am:=hm.symm;have aA:m<=1000000000:=ao9;have t:BW wr.heap.size wr (wr.alloc (J #[Z G (j:Int)] 3 (0,0))):=Bn;have bU:=hF.out.free.mod (Mod.af (S:=λ_=>False) t) (λ_ _ c=>c);have cw:(wr.alloc (J #[Z G (j:Int)] 3 (0,0))).cell? ⟨wr.heap.size,0,I⟩=O (Z G (j:Int)):=Aa (Ah _ _) 0;have ap:w.heap.size<=(wr.alloc (J #[Z G (j:Int)] 3 (0,0))).heap.size:=(by have:=hF.out.or.low.size;have:=t.size;omega);replace⟨hx,aD,z,bM,hm,am,aA,t⟩:=H8 hx aD z bM hm am aA t;replace⟨bU,cw,ap⟩:=H3 bU cw ap;go_wp2_with (at_builtin;refine Nm rfl _ _ rfl w.heap.size m _ rfl bU.out am.out ⟨wr.heap.size,0,I⟩ 1 rfl (j:Int) cw.out aA.out ap.out ?_;intro g7 aE w7 h7 al av;replace⟨h7,al,av⟩:=H3 h7 al av)
      have aL:=hF.out.set t.out (Mod.grown al.out (S:=λb=>(Value.slice so m c).ownBlock=O b) (λk y=>y)) h7.out (λk y=>by
       simp[Value.ownBlock]at y;subst y;rcases av.out with e|e
       .exact .inl e
       .exact .inr e)
      rw[<-z.out]at aL;replace aL:=Hh aL;go_roundw
      case rel=>exact⟨j+1,by go_num,ao9,aL⟩
      case measure=>simp[intOf];omega
     .have z:Jc left (j+1)=Jc left j:=(by show(if (left[j]?).getD 0=0 then _ else _)=_;rw[Iq hx,Ac b3]);rw[<-z]at hF;replace⟨hx,z⟩:=H2 hx z;go_wp2;go_roundw
      case rel=>exact⟨j+1,by go_num,ao9,hF⟩
      case measure=>simp[intOf];omega
    .have bo:¬(j:Int)<n:=ao9;have bW:j=n:=ao9;have b6:Hid (jj w n n u d u10 (V I 0 0) (Io d ⟨left,Jc left n,[]⟩ 0) wr):=(by have:=bW▸hF;exact this.out.q (s:=⟨left,[],[]⟩));have bJ:=mu.start left n;have b1:Kz (left,Jc left n)<=2*n:=(by unfold Kz;have:left.countP (λx=>decide (0<x))<=left.length:=Wj;have:=bv.out;have:=bJ.2;simp only;omega);obtain⟨s0,bA⟩:=Ex ((⟨left,Jc left n,[]⟩:sj));have bS:Ip (-(100000000*(0:Int))) 100000000 left:=hT.out.left.mono ao9 ao9;rw[<-bA]at b6;have a0:s0.left=left/\s0.free=Jc left n/\s0.out=[]:=(by rw[bA];exact⟨rfl,rfl,rfl⟩);have a2:Kf after = !decide ((Io d s0 (2*n)).out.length<n):=(by rw[ba.out,bA]);clear ba hF;replace⟨bJ,b1,bA,bS,a0,a2,bW⟩:=H7 bJ b1 bA bS a0 a2 bW;go_wp2_with fail;go_loopg [10,11,14,16,17,18,95] (2*n) (λgk fv ov _ _ _ _ _ wr=>∃(p:Nat),p+gk<=2*n/\Hid (jj w n n u d fv ov (Io d s0 p) wr)/\Hid (mu n (Io d s0 p).free)/\Hid (Kz ((Io d s0 p).left,(Io d s0 p).free)<=gk)/\Hid (Ip (-(100000000*(p:Int))) 100000000 (Io d s0 p).left)/\Hid ((Io d s0 p).out.length=p))
     case atStart=>
      refine⟨0,ao9,b6,?_,?_,?_,?_⟩
      .show mu n s0.free;rw[a0.out.2.1];exact bJ.out.1
      .show Kz (s0.left,s0.free)<=2*n;rw[a0.out.1,a0.out.2.1];exact b1.out
      .show Ip _ _ s0.left;rw[a0.out.1];exact bS.out
      .show s0.out.length=0;rw[a0.out.2.2];rfl
     case round=>
      obtain⟨p,c5,hQ,aP,a6,a1,aU⟩:=hrel;obtain⟨s,hs⟩:=Ex (Io d s0 p);rw[<-hs]at hQ aP a6 a1 aU;obtain⟨f,cR,an⟩:=s;simp only at aP a6 a1 aU
      cases cR with
      | nil=>
       have aH:Kf after = !decide (an.length<n):=(by rw[a2.out,Ak5 (s:=s0) (p:=p) (by rw[<-hs]) (2*n) ao9,<-hs]);obtain⟨so,c,e,_⟩:=hQ.out.free.form;subst e;obtain⟨a7,m2,c2,e2,am⟩:=hQ.out.out.len;subst e2;have be:=aU.out;have aT:m2=an.length:=am;simp only[Qw];replace⟨hs,aP,a6,a1,aU,be⟩:=H6 hs aP a6 a1 aU be;by_cases cx:m2<n
       .have cy:(m2:Int)<n:=ao9;have ad:Kf after=false:=(by rw[aH];simp;omega);replace⟨am,aT,aH,ad⟩:=H4 am aT aH ad;go_wp2;refine Al (v:=E #[V I 0 0,Q false]) (by simp[results,results210,go_sem]) rfl ⟨⟨_,by rw[ad.out]⟩,hQ.out.or.low⟩
       .have cy:¬(m2:Int)<n:=ao9;have ad:Kf after=true:=(by rw[aH];simp;omega);replace⟨am,aT,aH,ad⟩:=H4 am aT aH ad;go_wp2;refine Al (v:=E #[V a7 m2 c2,Q true]) (by simp[results,results210,go_sem]) rfl ⟨⟨_,by rw[ad.out]⟩,hQ.out.or.low⟩
      | cons x r=>
       have aW:=aP.out.vg x (Ci ..);obtain⟨xx,rfl⟩:∃xx:Nat,x=(xx:Int):=⟨x.toNat,ao9⟩;have cV:(xx:Int)<n:=ao9;have b3:(0:Int)<=(xx:Int):=ao9;obtain⟨g,aX,cap,e,b4,bX,cf,ci,bT⟩:=hQ.out.free.pos as9;subst e;obtain⟨M,hM⟩:=Ex (((xx:Int)::r).length);rw[<-hM]at hQ bX;have b5:M=r.length+1:=(by rw[hM];rfl);rw[<-hM];have cX:0<M:=ao9;have cY:(1:Int)<=M:=ao9;have cd:(1:Int)<=cap:=ao9;have c0:wr.cell? ⟨g,aX,I⟩=O (Z G (xx:Int)):=bT 0 _ rfl;have bD:r.length<=2*n/\Kz (f,r)+1<=gk:=(by have:=a6.out;unfold Kz at this ⊢;simp only[Jl]at this ⊢;omega);obtain⟨a7,m2,c2,e2,am⟩:=hQ.out.out.len;subst e2;have be:=aU.out;have aT:m2=an.length:=am;have aA:m2<=1000000000:=ao9;obtain⟨cG,bn,cF,bl,q1,q2,q3,q4,q5⟩:=hQ.out.or.back.get (i:=xx) (by have c4:=bK.out;show xx<d.length;omega);have bR:=(hT.out.back bl (Ai q2));have bf:Hid (jj w n n u d (V (O ⟨g,if cap=1 then aX else aX+1,I⟩) r.length (cap-1)) (V a7 m2 c2) ⟨f,r,an⟩ wr):=hQ.out.tail rfl;obtain⟨bL,bj⟩:=bR;have aN:bn<=100000000:=ao9;have bB:Am (wr.alloc (J #[Z G (xx:Int)] 3 (0,0))) w.heap.size (V a7 m2 c2) an:=bf.out.out.mod (Mod.af (S:=λ_=>False) Bn) (λ_ _ c=>c);have cw:(wr.alloc (J #[Z G (xx:Int)] 3 (0,0))).cell? ⟨wr.heap.size,0,I⟩=O (Z G (xx:Int)):=Aa (Ah _ _) 0;have t:BW wr.heap.size wr (wr.alloc (J #[Z G (xx:Int)] 3 (0,0))):=Bn;have ap:w.heap.size<=(wr.alloc (J #[Z G (xx:Int)] 3 (0,0))).heap.size:=by have:=hQ.out.or.low.size;have:=t.size;omega
       have a3:∀w7,(wr.alloc (J #[Z G (xx:Int)] 3 (0,0))).grownBy w7 (Value.slice a7 m2 c2).ownBlock->w7.cell? ⟨w.heap.size+1,xx,I⟩=O (V cG bn cF):=λw7 hg=>by
        obtain⟨_,cB,cc,ce⟩:=hQ.out.or.back.au;have cO:=Bv hQ.out.out.row ce ad9;have hb:=hg.block (w.heap.size+1) (by have:=t.size;omega) (λe=>cO e.symm);exact(By (a:=⟨w.heap.size+1,xx,I⟩) (hb.trans (t.block (w.heap.size+1) cB))).trans q4
       obtain⟨bN,bs⟩:=Ex (Value.slice (if cap=1 then O ⟨g,aX,I⟩else O ⟨g,aX+1,I⟩) (M-1) (cap-1))
       have bH:Hid (jj w n n u d bN (V a7 m2 c2) ⟨f,r,an⟩ wr):=by
        have e:bN=V (O ⟨g,if cap=1 then aX else aX+1,I⟩) r.length (cap-1):=by
         rw[bs,show M-1=r.length by omega]
         split<;>rfl
        rw[e];exact bf.out
       replace⟨hs,aP,a6,a1,aU,aW,b4,bX⟩:=H8 hs aP a6 a1 aU aW b4 bX;replace⟨cf,ci,bT,hM,b5,bD,be,am⟩:=H8 cf ci bT hM b5 bD be am;replace⟨aT,aA,q1,q2,q3,q4,q5,bL⟩:=H8 aT aA q1 q2 q3 q4 q5 bL;replace⟨bj,aN,bf,bB,cw,t,ap,a3⟩:=H8 bj aN bf bB cw t ap a3;replace bH:=Hh bH;go_upto_region 24 with fail;rw[<-bs];clear bs c0 hQ bf;go_wp2_with (at_builtin;refine Nm rfl _ _ rfl w.heap.size m2 _ rfl bB.out aT.out.symm ⟨wr.heap.size,0,I⟩ 1 rfl (xx:Int) cw.out aA.out ap.out ?_;intro g7 aE w7 h7 al av;have k7:=a3.out w7 al;replace⟨h7,al,av⟩:=H3 h7 al av)
       have b7:=bH.out.vm t.out (Mod.grown al.out (S:=λb=>(Value.slice a7 m2 c2).ownBlock=O b) (λk y=>y)) h7.out (λk y=>by
        simp[Value.ownBlock]at y;subst y;rcases av.out with e|e
        .exact .inl e
        .exact .inr e)
       have cI:Hid (jj w n n u d bN (V (O ⟨g7,0,I⟩) (m2+1) aE) ⟨(Ef (f,r) bl 0).1,(Ef (f,r) bl 0).2,an++[(xx:Int)]⟩ w7):=b7;have ch:Hid (mu n (Ef (f,r) bl 0).2):=Hh aP.out.tail;have cb:Hid (Ip (-(100000000*(p:Int))-((0:Nat):Int)) 100000000 (Ef (f,r) bl 0).1):=Hh (show Ip _ _ f from a1.out.mono ao9 ao9);have cC:Hid (Kz (Ef (f,r) bl 0)+1<=gk):=Hh bD.out.2;have a5:Tj d ⟨f,(xx:Int)::r,an⟩=⟨(Ef (f,r) bl bn).1,(Ef (f,r) bl bn).2,an++[(xx:Int)]⟩:=(by unfold Tj;simp only[K7,Iq q2.out];rw[<-q3.out]);clear k7 bH b7;replace a5:=Hh a5;go_loopw [10,16,17,18,95] (λfv _ _ _ jv wr=>∃(j:Nat),jv=Z G j/\j<=bn/\Hid (jj w n n u d fv (V (O ⟨g7,0,I⟩) (m2+1) aE) ⟨(Ef (f,r) bl j).1,(Ef (f,r) bl j).2,an++[(xx:Int)]⟩ wr)/\Hid (mu n (Ef (f,r) bl j).2)/\Hid (Ip (-(100000000*(p:Int))-(j:Int)) 100000000 (Ef (f,r) bl j).1)/\Hid (Kz (Ef (f,r) bl j)+1<=gk)) (λ_ _ _ _ jv _=>bn-(intOf jv).toNat)
       case atStart=>exact⟨0,rfl,As _,cI,ch,cb,cC⟩
       case round=>
        obtain⟨j,rfl,cm,hQ,aQ,a8,aV⟩:=hrel;by_cases hd:j<bn
        .have bo:(j:Int)<bn:=ao9;have cj:(0:Int)<=(j:Int):=ao9;have cJ:=aN.out;have ak:=hQ.out.or.back.each xx _ bl q1.out q2.out;obtain⟨bg,cS,e⟩:=Joins.ownsRow_form ak.row (by have:=q3.out;omega);injection e with e1 e2 e3;subst e1;clear e2 e3;obtain⟨k,y⟩:=Ge bl j (by have:=q3.out;omega);have cp:=bj.out.at y;obtain⟨kk,rfl⟩:∃kk:Nat,k=(kk:Int):=⟨k.toNat,ao9⟩;have cr:kk<n:=ao9;have ct:(kk:Int)<n:=ao9;have cs:(0:Int)<=(kk:Int):=ao9;have ck:=ak.cell y;obtain⟨st,o⟩:=Ex (Ef (f,r) bl j);have z:Ef (f,r) bl (j+1)=Rs st (kk:Int):=(by rw[o];show Rs _ ((bl[j]?).getD 0)=_;rw[Iq y]);rw[<-o]at hQ aQ a8 aV;obtain⟨x,hx⟩:=Ge st.1 kk (by have h9:st.1.length=n:=hQ.out.or.l1;omega);have aW:=a8.out.at hx;have lx:=hQ.out.or.left.cell hx;have fl:=hQ.out.or.uq kk;have cP:IntKind.i64.wrap (x-1)=x-1:=Ja (by have:=aN.out;omega) ao9;have hrel:=Ax2 (st:=st) (k:=(kk:Int)) (x:=x) (by simpa using hx);have bE:=Ax1 (st:=st) (k:=(kk:Int)) (x:=x) (by simpa using hx);rw[<-z]at hrel bE;obtain⟨W1,aI⟩:=Ex (wr.setCell ⟨w.heap.size,kk,I⟩ (Z G (x-1)));have aM:=hQ.out.fy kk (x-1);rw[<-aI]at aM;have c6:W1.cell? ⟨w.heap.size,kk,I⟩=O (Z G (x-1)):=aM.or.left.cell (by show(st.1.set kk (x-1))[kk]?=_;rw[D3];have:=(An.1 hx).1;simp[this]);have a9:Ip (-(100000000*(p:Int))-((j+1:Nat):Int)) 100000000 (Ef (f,r) bl (j+1)).1:=(by rw[hrel];exact a8.out.set ao9 ao9 ao9 ao9);have bd:Kz (Ef (f,r) bl (j+1))+1<=gk:=(by have:=aV.out;omega);replace⟨ak,y,cp,o,z,hx,aW,hrel⟩:=H8 ak y cp o z hx aW hrel;replace⟨bE,aM,a9,bd,hQ⟩:=H5 bE aM a9 bd hQ;go_upto_region 29 with fail;rw[<-aI];have b8:=Hh aI;clear aI ck lx fl;by_cases cQ:x=1
         .subst cQ;obtain⟨eo,aO⟩:=Ex (st.2.countP (·<(kk:Int)));have aD:st.2.length<=1000000:=(by have:=aV.out;unfold Kz at this;omega);have bx:Ds W1 w.heap.size u10 st.2:=aM.out.free;have bI:=Ayq bx aQ.out.aw (kk:Int) aD;rw[<-aO]at bI;have bk:∀q,BW W1.heap.size W1 ((W1.drewN q).alloc (J #[Z G (kk:Int)] 3 (0,0))):=λq=>(A4 _ W1 q).alloc Ln _
          have aS:∀q,CS prog 265 #[u10,Z G (eo:Int),V (O ⟨W1.heap.size,0,I⟩) 1 1] ((W1.drewN q).alloc (J #[Z G (kk:Int)] 3 (0,0))) (Zc ((W1.drewN q).alloc (J #[Z G (kk:Int)] 3 (0,0))) w.heap.size u10 (ij (kk:Int) st.2)):=λq=>by
           have h9:=bx.mod (Mod.af (S:=λ_=>False) (bk q)) (λ_ _ c=>c);have:=Axr h9 (kk:Int) eo (by rw[aO];exact Wj) aD W1.heap.size (Ah _ _) (λe=>by have:=(bx.lt _ e).2;omega) (by have:=aM.out.or.low.size;have:=(bk q).size;omega);unfold ij;rw[<-aO];exact this
          unfold Zc at aS;replace⟨aO,aD,bx,bI,aS,bk⟩:=H6 aO aD bx bI aS bk
          go_wp2_with (first
           | (go_at_call 264;(with_reducible refine bI.out.mono ?_);rintro e w8 ⟨⟨bb,rfl⟩,q,rfl⟩)
           | (go_at_call 265;(with_reducible refine(aS.out _).mono ?_);rintro e w9 ⟨v9,rfl,bY,aA,bQ⟩;replace⟨bY,aA,bQ⟩:=H3 bY aA bQ))
          have hF:=aM.out.tr (bk.out q) aA.out bY.out (λk y=>by
           rcases bQ.out with e|e
           .exact .inl (e▸y)
           .rw [e]at y;injection y with y
            exact .inr y.symm)
          have aL:Hid (jj w n n u d v9 (V (O ⟨g7,0,I⟩) (m2+1) aE) ⟨(Ef (f,r) bl (j+1)).1,(Ef (f,r) bl (j+1)).2,an++[(xx:Int)]⟩ w9):=(by rw[hrel.out,Ad ao9];exact hF);have bp:Hid (mu n (Ef (f,r) bl (j+1)).2):=(by rw[hrel.out,Ad ao9];exact aQ.out.ins cs ct);clear hF;go_roundw
          case rel=>exact⟨j+1,by go_num,ao9,aL,bp,a9,bd⟩
          case measure=>simp[intOf];omega
         .have cD:¬x-1=0:=ao9;have aL:Hid (jj w n n u d u10 (V (O ⟨g7,0,I⟩) (m2+1) aE) ⟨(Ef (f,r) bl (j+1)).1,(Ef (f,r) bl (j+1)).2,an++[(xx:Int)]⟩ W1):=(by rw[hrel.out,Ac cD];exact aM.out);have bp:Hid (mu n (Ef (f,r) bl (j+1)).2):=(by rw[hrel.out,Ac cD];exact aQ.out);go_wp2_with fail;go_roundw
          case rel=>exact⟨j+1,by go_num,ao9,aL,bp,a9,bd⟩
          case measure=>simp[intOf];omega
        .have bo:¬(j:Int)<bn:=ao9;have cL:j=bn:=ao9;have a4:Io d s0 (p+1)=⟨(Ef (f,r) bl bn).1,(Ef (f,r) bl bn).2,an++[(xx:Int)]⟩:=(by show Tj d (Io d s0 p)=_;rw[<-hs.out];exact a5.out);have cZ:=aV.out;have cJ:=aN.out;replace a4:=Hh a4;go_wp2;go_roundg (gk-1)
         case measure=>omega
         case rel=>
          have e:=cL;refine⟨p+1,ao9,?_,?_,?_,?_,?_⟩
          .rw [a4.out,<-e];exact hQ
          .rw [a4.out,<-e];exact aQ
          .rw [a4.out,<-e];exact Hh (by have:=aV.out;show Kz (Ef (f,r) bl j)<=gk-1;omega)
          .rw [a4.out,<-e];exact Hh (a8.out.mono ao9 ao9)
          .rw [a4.out];exact Hh (by have:=be.out;simp;omega)
def Ays (f:Option Addr) (n c:Nat) (after:List (List Int)) (w:WD) (h:Ru w f n after) :
  CS prog 156 #[V f n c] w λe w'=>e=Y (Q (!Kf after))/\BW w.heap.size w w':=by
 have d:=Ayr f n c after w h;obtain⟨b,g⟩:=Ex (Kf after);rw[<-g]at d ⊢;replace⟨h,d,g⟩:=H3 h d g;go_enter func156,ntmps156;go_wp2_with (go_at_call 210;(with_reducible refine d.out.mono ?_);rintro e w1 ⟨⟨v,rfl⟩,a⟩;replace a:=Hh a)
 all_goals
  go_ret;exact⟨by first|rfl|simp_all,a.out⟩
def Kg (f:Int) (t:Nat):List Int:=(List.range t).map λ(j:Nat)=>f+(j:Int)
def Ayx (f:Int) (t:Nat):Kg f (t+1)=Kg f t++[f+(t:Int)]:=by simp[Kg,Wv]
def D9 (next:Int) (sizes:List Int):Nat->Int
 | 0=>next
 | k+1=>D9 next sizes k+(sizes[k]?).getD 0
def Nn (next:Int) (sizes:List Int) (r:List Int×List Int) (n:Int):List Int×List Int:=
 if 0<n then(r.1,r.2++[n])else(r.1++[-1-n],r.2++Kg (D9 next sizes (-1-n).toNat) ((sizes[(-1-n).toNat]?).getD 0).toNat)
def Di (next:Int) (sizes l:List Int):Nat->List Int×List Int
 | 0=>([],[])
 | j+1=>Nn next sizes (Di next sizes l j) ((l[j]?).getD 0)
def Lv (next:Int) (sizes l:List Int):List Int:=(Di next sizes l l.length).1
def K1 (next:Int) (sizes l:List Int):List Int:=Lib.compact (K0 (Di next sizes l l.length).2)
def G8 (f:List Int->List Int) (after:List (List Int)):Nat->List (List Int)
 | 0=>List.replicate after.length []
 | i+1=>(G8 f after i).set i (f ((after[i]?).getD []))
def Vr (f:List Int->List Int) (after:List (List Int)):∀i,(G8 f after i).length=after.length
 | 0=>by simp[G8]
 | i+1=>by simp[G8,Vr f after i]
def Zg (f:List Int->List Int) (after:List (List Int)):∀(i k:Nat),k<after.length->(G8 f after i)[k]?=O (if k<i then f ((after[k]?).getD [])else[])
 | 0,k,hk=>by simp[G8,hk]
 | i+1,k,hk=>by
  have c:=Zg f after i k hk;have b:=Vr f after i;show((G8 f after i).set i _)[k]?=_;rw[D3];by_cases h:i=k
  .subst h;simp[b,hk]
  .rw [Ac h,c];by_cases a:k<i
   .rw [Ad a,Ad ao9]
   .rw [Ac a,Ac ao9]
def Alf (f:List Int->List Int) (after:List (List Int)):G8 f after after.length=after.map f:=by
 apply Eh;intro k;by_cases a:k<after.length
 .rw [Zg f after _ k a,Ad a];simp[a]
 .rw [Pq (by rw[Vr];omega),Pq (by simp;omega)]
def G9 (next:Int) (sizes:List Int) (after:List (List Int)):List (List Int)×Int:=
 if next<1\/1099511627776<next\/8<sizes.length\/after.length≠sizes.length then([],1)
 else if (sizes.any λn=>decide (n<1) || decide (20<n))=true then([],1)
 else if (after.any λl=>l.any (G4 next sizes.length))=true then([],90)
 else if Kf (after.map (Lv next sizes))=false then([],91)
 else(after.map (K1 next sizes),0)
def Zh (b:Int) (a l:List Int) (c:∀n,n∈a->n<=20):∀j,(Di b a l j).1.length<=j/\(Di b a l j).2.length<=20*j
 | 0=>by simp[Di]
 | j+1=>by
  obtain⟨h1,d⟩:=Zh b a l c j;show(Nn b a (Di b a l j) _).1.length<=_/\(Nn b a (Di b a l j) _).2.length<=_;unfold Nn;split
  .simp only[Cn,List.length_singleton];omega
  .have:∀k:Nat,((a[k]?).getD 0).toNat<=20:=λk=>by
    cases h:a[k]? with
    | none=>simp
    | some n=>have:=c n (Ai h);simp;omega
   simp only[Cn,List.length_singleton,Kg,Ar,Aaz];have:=this (-1-(l[j]?).getD 0).toNat;omega
def Alg (b:Int) (a:List Int) (c:∀n,n∈a->1<=n/\n<=20):∀k:Nat,b<=D9 b a k/\D9 b a k<=b+20*(k:Int)
 | 0=>by simp[D9]
 | k+1=>by
  obtain⟨h1,d⟩:=Alg b a c k;show b<=D9 b a k+(a[k]?).getD 0/\_
  have:0<=(a[k]?).getD 0/\(a[k]?).getD 0<=20:=by
   cases h:a[k]? with
   | none=>simp
   | some n=>have:=c n (Ai h);simp;omega
  constructor
  .omega
  .show D9 b a k+(a[k]?).getD 0<=_;push_cast;omega
structure jh (B g1 g2 m:Nat) (fl:List Int) (s1 s2:List VL) (l1 l2:List (List Int)) (w:WD):Prop where
 a:Dg w B g1 m s1 l1
 b:Dg w B g2 m s2 l2
 ng:g1≠g2
 b1:B<g1
 b2:B<g2
 na:∀(i:Nat) (sv:VL),s1[i]?=O sv->sv.ownBlock≠O B/\sv.ownBlock≠O g2
 nb:∀(i:Nat) (sv:VL),s2[i]?=O sv->sv.ownBlock≠O B/\sv.ownBlock≠O g1
 two:∀(i j:Nat) (u v:VL),s1[i]?=O u->s2[j]?=O v->∀k,u.ownBlock=O k->v.ownBlock≠O k
 first:Am w B (V (O ⟨B,0,I⟩) (m+1) (m+1)) fl
variable {B g1 g2 m:Nat} {fl:List Int} {s1 s2:List VL} {l1 l2:List (List Int)}
def jh.symm {w:WD} (h:jh B g1 g2 m fl s1 s2 l1 l2 w):jh B g2 g1 m fl s2 s1 l2 l1 w:=
 ⟨h.b,h.a,λe=>h.ng e.symm,h.b2,h.b1,h.nb,h.na,λi j u v d f k c e=>h.two j i v u f d k e c,h.first⟩
def jh.drop {w w1:WD} (h:jh B g1 g2 m fl s1 s2 l1 l2 w) (d:BW w.heap.size w w1):jh B g1 g2 m fl s1 s2 l1 l2 w1:=
 ⟨h.a.low d,h.b.low d,h.ng,h.b1,h.b2,h.na,h.nb,h.two,h.first.mod (Mod.af (S:=λ_=>False) d) (λ_ _ c=>c)⟩
def jh.put {w w1 p:WD} (h:jh B g1 g2 m fl s1 s2 l1 l2 w) (x:BW w.heap.size w w1) {i:Nat} {g o:VL} {l l':List Int} (n:s1[i]?=O g) (hl:l1[i]?=O l) (y:w1.grownBy p g.ownBlock) (ho:Am p B o l')
  (s:∀k,o.ownBlock=O k->g.ownBlock=O k\/k=w1.heap.size):jh B g1 g2 m fl (s1.set i o) s2 (l1.set i l') l2 (p.setCell ⟨g1,i,I⟩ o):=by
 have h1:=h.drop x;have z:=Mod.grown y (λk f=>f);have r:Mod (λk=>k=g1) p (p.setCell ⟨g1,i,I⟩ o):=Mod.setCell p g1 i o rfl;have al:=x.size;have ad:=h.b.au.2.1;have ac:=h.a.au.2.1;have hB:=h.b1;refine⟨h1.a.put n hl y ho s,(h1.b.off z (h.na i g n).2 (λj u d k f e=>h.two i j g u n d k e f)).off r (λe=>h.ng e.symm) (λj u d k f e=>(h.nb j u d).2 (by rw[f,e])),h.ng,h.b1,h.b2,?_,h.nb,?_,?_⟩
 .intro j u d;rw[D3]at d;split at d
  .split at d
   .injection d with d;subst d;refine⟨λe=>?_,λe=>?_⟩
    .rcases s _ e with c|c
     .exact (h.na i g n).1 c
     .omega
    .rcases s _ e with c|c
     .exact (h.na i g n).2 c
     .omega
   .cases d
  .exact h.na j u d
 .intro j k u v d t q hq e;rw[D3]at d;split at d
  .split at d
   .injection d with d;subst d;rcases s _ hq with c|c
    .exact h.two i k g v n t q c e
    .have f:k<l2.length:=(by rw[<-h.b.len];exact(An.1 t).1);have:=((h.b.each k v _ t (A3 f)).lt q e).2;omega
   .cases d
  .exact h.two j k u v d t q hq e
 .exact (h1.first.mod z (λk f e=>by simp[Value.ownBlock]at f;subst f;exact(h.na i g n).1 e)).mod r (λk f e=>by simp[Value.ownBlock]at f;omega)
def jh.below {c w w1 j:WD} (h:jh c.heap.size g1 g2 m fl s1 s2 l1 l2 w) (b:BW c.heap.size c w) (l:BW w.heap.size w w1) {i:Nat} {f p:VL} (g:s1[i]?=O f) (n:w1.grownBy j f.ownBlock):BW c.heap.size c (j.setCell ⟨g1,i,I⟩ p):=by
 have e:=λk o=>by
  have d:i<l1.length:=by rw[<-h.a.len];exact(An.1 g).1
  exact((h.a.each i f _ g (A3 d)).lt k o).1
 have h1:=b.trans (l.mono b.size);have:=h.b1;exact Cr (h1.grown n h1.size e) ao9
def Am.xa {w:WD} {B g n c:Nat} {l:List Int} (h:Am w B (V (O ⟨g,0,I⟩) n c) l) (i:Nat) (y:Int):Am (w.setCell ⟨g,i,I⟩ (Z G y)) B (V (O ⟨g,0,I⟩) n c) (l.set i y):=by
 have a:=h.num;subst a;refine⟨?_⟩;have:=(h.row.stored i (Z G y)).1;rw[Dy];have e:Bz (l.set i y)=(Bz l).set i (Z G y):=by simp[Bz,Nx]
 rw[e];exact this
def jh.app {w:WD} (h:jh B g1 g2 m fl s1 s2 l1 l2 w) {i:Nat} (z:i<l1.length) (x:Int):∃so n c l,s1[i]?=O (V so n c)/\l1[i]?=O l/\l.length=n/\w.cell? ⟨g1,i,I⟩=O (V so n c)/\Am w B (V so n c) l /\
  BW w.heap.size w (w.alloc (J #[Z G x] 3 (0,0)))/\Am (w.alloc (J #[Z G x] 3 (0,0))) B (V so n c) l/\(w.alloc (J #[Z G x] 3 (0,0))).cell? ⟨w.heap.size,0,I⟩=O (Z G x)/\B<=(w.alloc (J #[Z G x] 3 (0,0))).heap.size /\
  (∀f,(w.alloc (J #[Z G x] 3 (0,0))).grownBy f (Value.slice so n c).ownBlock->f.cell? ⟨g1,i,I⟩=O (V so n c)/\f.frozen? ⟨g1,i,I⟩=false) /\
  (∀f,Mod (λb=>(Value.slice so n c).ownBlock=O b) w f->f.cell? ⟨g1,i,I⟩=O (V so n c)/\f.frozen? ⟨g1,i,I⟩=false):=by
 obtain⟨q,n3,u,l3,r,s,v,p,t⟩:=h.a.get z;have o:=h.a.ne r s;have k:=h.a.au.2.1;have hB:=h.b1;have d:BW w.heap.size w (w.alloc (J #[Z G x] 3 (0,0))):=Bn;have h2:=d.size;refine⟨q,n3,u,l3,r,s,v.symm,p,t,d,t.mod (Mod.af (S:=λ_=>False) d) (λ_ _ c=>c),Aa (Ah _ _) 0,ao9,λf y=>?_,λf hm=>?_⟩
 .have g:=y.block g1 ao9 (λe=>o e.symm);have j:=(d.block g1 k);exact⟨(By (a:=⟨g1,i,I⟩) (g.trans j)).trans p,(Po (a:=⟨g1,i,I⟩) (g.trans j)).trans (h.a.row.frozenAt i)⟩
 .have g:=hm.block g1 k (λe=>o e);exact⟨(By (a:=⟨g1,i,I⟩) g).trans p,(Po (a:=⟨g1,i,I⟩) g).trans (h.a.row.frozenAt i)⟩
def Dg.rows {w:WD} {B g cap:Nat} {k:List VL} {a:List (List Int)} (h:Dg w B g cap k a) (h1:a.length<=1000) (t:∀l,l∈a->l.length<=100000):Ru w (O ⟨g,0,I⟩) a.length a:=by
 refine⟨rfl,h1,λi l f=>?_⟩;have u:=(An.1 f).1;obtain⟨so,n,c,l',y,b,q,r,o⟩:=h.get u;rw[f]at b;injection b with b;subst b;subst q;obtain⟨v,x,d,s⟩:=Ags o;injection d with d _ e8;subst d;subst e8;refine⟨g,0,so,c,rfl,h.au.2.1,by rw[Db];exact r,s,?_,t l (Ai f)⟩;rcases o.row.2 with⟨e,h0⟩|⟨z,m,p,e,_,_,j,_⟩
 .have:l.length=0:=h0;omega
 .injection e with _ _ e;subst e;exact j
def Zi {α:Type} {l:List α} {i:Nat} {x:α} (h:l[i]?=O x):l.set i x=l:=by
 apply Eh;intro k;rw[D3];by_cases e:i=k
 .subst e;rw[Ad rfl,Ad (An.1 h).1,h]
 .rw [Ac e]
def jh.start {w:WD} {B n:Nat} {fl:List Int} (m:B<w.heap.size) (s:n<=1000) (o:Am w B (V (O ⟨B,0,I⟩) (n+1) (n+1)) fl):jh B w.heap.size (w.heap.size+1) n fl (List.replicate n (V I 0 0)) (List.replicate n (V I 0 0)) (List.replicate n []) (List.replicate n []) ((w.alloc (J (Array.replicate n (Value.slice I 0 0)) 31 (0,0))).alloc (J (Array.replicate n (Value.slice I 0 0)) 31 (0,0))):=by
 have h1:=Dg.made w B n ao9 ao9;have d:=Dg.made (w.alloc (J (List.replicate n (Value.slice I 0 0)).toArray 31 (0,0))) B n (by simp;omega) ao9;have f:BW w.heap.size w (w.alloc (J (List.replicate n (Value.slice I 0 0)).toArray 31 (0,0))):=Bn;have b:BW (w.alloc (J (List.replicate n (Value.slice I 0 0)).toArray 31 (0,0))).heap.size (w.alloc (J (List.replicate n (Value.slice I 0 0)).toArray 31 (0,0))) ((w.alloc (J (List.replicate n (Value.slice I 0 0)).toArray 31 (0,0))).alloc (J (List.replicate n (Value.slice I 0 0)).toArray 31 (0,0))):=Bn;have h:=h1.low b;have l:=(o.mod (Mod.af (S:=λ_=>False) f) (λ_ _ c=>c)).mod (Mod.af (S:=λ_=>False) b) (λ_ _ c=>c);simp only[Aai]at d h l;have e:(w.alloc (J (Array.replicate n (Value.slice I 0 0)) 31 (0,0))).heap.size=w.heap.size+1:=as9
 rw[e]at d;refine⟨h,d,ao9,m,ao9,λi r g=>?_,λi r g=>?_,λi j u v q t k p=>?_,l⟩
 .have a:=R5 (Ai g);subst a;simp[Value.ownBlock]
 .have a:=R5 (Ai g);subst a;simp[Value.ownBlock]
 .have a:=R5 (Ai q);subst a;simp[Value.ownBlock]at p
end
section
open Go.RowKit Go.Maps Go.Lib
def It (r:List (List Int)×Int) (w:WD) (e:Ending) (w':WD):Prop:=
 ∃v,e=Y (E #[v,Z G r.2])/\(r.2≠0->v=V I 0 0)/\(r.2=0->∃g s2,v=V (O ⟨g,0,I⟩) r.1.length r.1.length/\Dg w' w.heap.size g r.1.length s2 r.1)/\BW w.heap.size w w'
def It.bad {r:List (List Int)×Int} {k:Int} {w w':WD} (h:r=([],k)) (b:k≠0) (a:BW w.heap.size w w'):It r w (Y (E #[V I 0 0,Z G k])) w':=by
 subst h;exact⟨_,rfl,λ_=>rfl,λe=>absurd e b,a⟩
def Aeb {l:List Int} {p:Int->Bool} {i:Nat} {x:Int} (b:l[i]?=O x) (a:p x=true):l.any p=true:=Kl.2 ⟨x,Ai b,a⟩
def A1f (o:Int) (so:Option Addr) (m sc:Nat) (d:List Int) (ao:Option Addr) (n c:Nat) (after:List (List Int)) (w:WD) (hs:At w so m d) (h:Ru w ao n after) (aF:∀l,l∈after->l.length<=1000) :
  CS prog 99 #[Z G o,V so m sc,V ao n c] w (It (G9 o d after) w):=by
 have aA:=hs.len;have s:=h.len;have av:BW w.heap.size w w:=Below.refl _ _;by_cases c0:o<1\/1099511627776<o\/8<d.length\/after.length≠d.length
 .have hr:G9 o d after=([],1):=by unfold G9;rw[Ad c0]
  rw[aA,s]at c0;by_cases c1:o<1
  .clear c0;replace⟨hs,h,aF,aA,s,hr,av⟩:=H7 hs h aF aA s hr av;go_enter Uk,Ui;go_wp2_with fail;exact Al (v:=E #[V I 0 0,Z G 1]) (by simp[results,results99,go_sem]) rfl (It.bad hr.out ad9 av.out)
  .by_cases c2:o > 1099511627776
   .clear c0;replace⟨hs,h,aF,aA,s,hr,av⟩:=H7 hs h aF aA s hr av;go_enter Uk,Ui;go_wp2_with fail;exact Al (v:=E #[V I 0 0,Z G 1]) (by simp[results,results99,go_sem]) rfl (It.bad hr.out ad9 av.out)
   .by_cases c3:(m:Int) > 8
    .clear c0;replace⟨hs,h,aF,aA,s,hr,av⟩:=H7 hs h aF aA s hr av;go_enter Uk,Ui;go_wp2_with fail;exact Al (v:=E #[V I 0 0,Z G 1]) (by simp[results,results99,go_sem]) rfl (It.bad hr.out ad9 av.out)
    .have c4:((n:Int) != (m:Int))=true:=(by rw[Gh];omega);clear c0;replace⟨hs,h,aF,aA,s,hr,av⟩:=H7 hs h aF aA s hr av;go_enter Uk,Ui;go_wp2_with fail;exact Al (v:=E #[V I 0 0,Z G 1]) (by simp[results,results99,go_sem]) rfl (It.bad hr.out ad9 av.out)
 have a6:G9 o d after=if (d.any λn=>decide (n<1) || decide (20<n))=true then([],1)
   else if (after.any λl=>l.any (G4 o d.length))=true then([],90)
   else if Kf (after.map (Lv o d))=false then([],91)
   else(after.map (K1 o d),0):=by
  unfold G9;rw[Ac c0]
 obtain⟨r,hr⟩:=Ex (G9 o d after);rw[<-hr];rw[<-hr]at a6;have c1:¬o<1:=λe=>c0 (.inl e);have c2:¬o > 1099511627776:=λe=>c0 (.inr (.inl e));have c3:¬(m:Int) > 8:=λe=>c0 (.inr (.inr (.inl ao9)))
 have co:n=m:=by
  by_cases e:n=m
  .exact e
  .exact absurd (.inr (.inr (.inr ao9))) c0
 subst co;have c4:((n:Int) != (n:Int))=false:=as9
 clear c0;have cA:∀w:WD,(Instr.makeSlice 31 (Z G ((n:Int)+1)) (Z G ((n:Int)+1))).run prog w=.ok (V (O ⟨w.heap.size,0,I⟩) (n+1) (n+1)) (w.alloc (J (List.replicate (n+1) (Value.int G 0)).toArray 3 (0,0))):=by have:=Ald (n+1) ao9;simpa using this
 have cB:=Ale n ao9;obtain⟨W,hW⟩:=Ex (w.alloc (J (Array.replicate (n+1) (Value.int G 0)) 3 (0,0)));have bc:Am W w.heap.size (V (O ⟨w.heap.size,0,I⟩) (n+1) (n+1)) (List.replicate (n+1) 0):=by rw[hW];simpa using Am.made w w.heap.size (n+1) Ln ao9
 have bB:BW w.heap.size w W:=by rw[hW];exact Bn
 have b7:W.cell? ⟨w.heap.size,0,I⟩=O (Z G 0):=bc.cell (i:=0) as9;have b9:W.frozen? ⟨w.heap.size,0,I⟩=false:=by obtain⟨c,hc,_⟩:=C7 bc.row (g:=w.heap.size) rfl;exact Ag hc 0
 have bp:=bc.xa 0 o;have bb:BW w.heap.size w (W.setCell ⟨w.heap.size,0,I⟩ (Z G o)):=Cr bB Ln;replace⟨hs,h,aF,aA,s,hr,a6,av⟩:=H8 hs h aF aA s hr a6 av;replace⟨bc,bB,bp,bb⟩:=H4 bc bB bp bb;go_enter Uk,Ui;go_upto_region 4 with fail;rw[<-hW];clear hW;go_upto_region 5 with fail;clear b7 b9;obtain⟨W1,bN⟩:=Ex (W.setCell ⟨w.heap.size,0,I⟩ (Z G o));rw[<-bN]at bp bb
 try rw[<-bN]
 clear bN bc bB
 have bK:Hid (∃fl:List Int,fl.length=n+1/\(∀k:Nat,k<=0->fl[k]?=O (D9 o d k))/\(∀k x,k<0->d[k]?=O x->1<=x/\x<=20)/\Am W1 w.heap.size (V (O ⟨w.heap.size,0,I⟩) (n+1) (n+1)) fl):=Hh ⟨_,as9,λk hk=>by
  have:k=0:=ao9
  subst this
  simp[D9],λk x hk=>by omega,bp.out⟩
 replace bK:=Hh bK;go_wp2_with fail;go_loopw [6,7,9,10,46] (λ_ _ _ _ iv wr=>∃(i:Nat),iv=Z G i/\i<=n/\Hid (BW w.heap.size w wr)/\Hid (∃fl:List Int,fl.length=n+1/\(∀k:Nat,k<=i->fl[k]?=O (D9 o d k))/\(∀k x,k<i->d[k]?=O x->1<=x/\x<=20)/\Am wr w.heap.size (V (O ⟨w.heap.size,0,I⟩) (n+1) (n+1)) fl)) (λ_ _ _ _ iv _=>n-(intOf iv).toNat)
 case atStart=>exact⟨0,rfl,As _,bb,bK⟩
 case round=>
  obtain⟨i,rfl,ci,hb,hG⟩:=hrel;by_cases hc:i<n
  .have bP:(i:Int)<n:=ao9;have ch:(0:Int)<=(i:Int):=ao9;obtain⟨x,hx⟩:=hs.out.get hc;obtain⟨b2,cC,rfl,aJ,aZ⟩:=hs.out.cell i x hx;have ck:=(Af hb.out aJ).trans aZ;by_cases x1:x<1
   .have p:r=([],1):=(by rw[a6.out,Ad (Aeb hx (by simp[x1]))]);replace⟨hx,aZ,p,aJ⟩:=H4 hx aZ p aJ;go_wp2_with fail;exact Al (v:=E #[V I 0 0,Z G 1]) (by simp[results,results99,go_sem]) rfl (It.bad p.out ad9 hb.out)
   .by_cases x2:x > 20
    .have p:r=([],1):=(by rw[a6.out,Ad (Aeb hx (by simp;omega))]);replace⟨hx,aZ,p,aJ⟩:=H4 hx aZ p aJ;go_wp2_with fail;exact Al (v:=E #[V I 0 0,Z G 1]) (by simp[results,results99,go_sem]) rfl (It.bad p.out ad9 hb.out)
    .obtain ⟨fl,bd,aR,aX,aG⟩:=hG.out
     have aW:∀k:Nat,k<=i->o<=D9 o d k/\D9 o d k<=o+20*(k:Int):=λk=>by
      induction k with
      | zero=>intro _;simp[D9]
      | succ k ih=>
       intro hk;have ih:=ih ao9;obtain⟨y,hy⟩:=hs.out.get (i:=k) ao9;have cM:=aX k y ao9 hy;have e:D9 o d (k+1)=D9 o d k+y:=(by show D9 o d k+(d[k]?).getD 0=_;rw[Iq hy]);rw[e];push_cast;omega
     obtain⟨f,hf⟩:=Ex (D9 o d i);have bR:=aW i Ln;have bv:=aR i Ln;rw[<-hf]at bR bv;have cf:=aG.cell bv;obtain⟨y,hy⟩:=Ge fl (i+1) ao9;have cy:=aG.cell hy;have ff:wr.frozen? ⟨w.heap.size,i+1,I⟩=false:=(by obtain⟨c,hc,_⟩:=C7 aG.row (g:=w.heap.size) rfl;exact Ag hc _);have cs:IntKind.i64.wrap (f+x)=f+x:=Ja ao9 ao9
     have bs:Hid (∃fl:List Int,fl.length=n+1/\(∀k:Nat,k<=i+1->fl[k]?=O (D9 o d k))/\(∀k x,k<i+1->d[k]?=O x->1<=x/\x<=20)/\Am (wr.setCell ⟨w.heap.size,i+1,I⟩ (Z G (f+x))) w.heap.size (V (O ⟨w.heap.size,0,I⟩) (n+1) (n+1)) fl):=Hh ⟨fl.set (i+1) (f+x),by rw[Dy];exact bd,λk hk=>by
      rw[D3];by_cases e:i+1=k
      .subst e;rw[Ad rfl,Ad ao9,hf];show _=O (D9 o d i+(d[i]?).getD 0);rw[Iq hx]
      .rw [Ac e]
       exact aR k ao9,λk z hk hz=>by
      by_cases e:k=i
      .subst e;rw[hx]at hz;injection hz with hz;omega
      .exact aX k z ao9 hz,aG.xa (i+1) (f+x)⟩
     have aQ:BW w.heap.size w (wr.setCell ⟨w.heap.size,i+1,I⟩ (Z G (f+x))):=Cr hb.out Ln;replace⟨hx,aZ,aJ,bd,aR,aX,aG,aW⟩:=H8 hx aZ aJ bd aR aX aG aW;replace⟨hf,bR,bv,hy,bs,aQ⟩:=H6 hf bR bv hy bs aQ;go_upto_region 11 with fail;obtain⟨W2,a1⟩:=Ex (wr.setCell ⟨w.heap.size,i+1,I⟩ (Z G (f+x)));rw[<-a1]at bs aQ;rw[<-a1];clear a1 cf cy ff ck;go_wp2_with fail;go_roundw
     case rel=>exact⟨i+1,by go_num,ao9,aQ,bs⟩
     case measure=>simp[intOf];omega
  .have bP:¬(i:Int)<n:=ao9;have a4:n=i:=ao9;subst a4;obtain⟨fl,bd,aR,aX,aG⟩:=hG.out
   have a8:∀x,x∈d->1<=x/\x<=20:=λx hx=>by
    obtain⟨k,hk⟩:=B4 hx;have:=(An.1 hk).1;exact aX k x (by have:=aA.out;omega) hk
   have bL:w.heap.size<wr.heap.size:=(by obtain⟨c,hc,_⟩:=C7 aG.row (g:=w.heap.size) rfl;exact Ab hc);have a0:=jh.start (n:=n) bL ao9 aG
   have bE:r=if (after.any λl=>l.any (G4 o d.length))=true then([],90)
     else if Kf (after.map (Lv o d))=false then([],91)
     else(after.map (K1 o d),0):=by
    rw[a6.out,Ac];intro e;obtain⟨x,hx,hp⟩:=Kl.1 e;have:=a8 x hx;simp at hp;omega
   have aQ:BW w.heap.size w ((wr.alloc (J (Array.replicate n (Value.slice I 0 0)) 31 (0,0))).alloc (J (Array.replicate n (Value.slice I 0 0)) 31 (0,0))):=(hb.out.alloc ao9 _).alloc (by simp;omega) _;clear a6;replace⟨bd,aR,aX,aG,a8,bL,a0,bE⟩:=H8 bd aR aX aG a8 bL a0 bE;replace aQ:=Hh aQ;go_upto_region 14 with fail;obtain⟨W2,a1⟩:=Ex ((wr.alloc (J (Array.replicate n (Value.slice I 0 0)) 31 (0,0))).alloc (J (Array.replicate n (Value.slice I 0 0)) 31 (0,0)));rw[<-a1]at a0 aQ;rw[<-a1];clear a1;obtain⟨g2,bT⟩:=Ex (wr.heap.size+1);rw[<-bT]at a0
   try rw[<-bT]
   obtain⟨g1,bS⟩:=Ex (wr.heap.size);rw[<-bS]at a0
   try rw[<-bS]
   clear bS bT hG hb aG;have aP:Hid (jh w.heap.size g1 g2 n fl (List.replicate n (V I 0 0)) (List.replicate n (V I 0 0)) (G8 (Lv o d) after 0) (G8 (K1 o d) after 0) W2):=Hh (by have:=a0.out;simpa[G8,s.out]using this)
   have ca:Hid (∀(k:Nat) (l:List Int),k<0->after[k]?=O l->l.any (G4 o d.length)=false):=Hh λk l hk=>by omega
   clear a0;go_wp2_with fail;go_loopw [13,14,16,17,18,76,83] (λ_ _ _ _ _ iv _ wr=>∃(i:Nat) (s1 s2:List VL),iv=Z G i/\i<=n/\Hid (BW w.heap.size w wr)/\Hid (jh w.heap.size g1 g2 n fl s1 s2 (G8 (Lv o d) after i) (G8 (K1 o d) after i) wr)/\Hid (∀(k:Nat) (l:List Int),k<i->after[k]?=O l->l.any (G4 o d.length)=false)) (λ_ _ _ _ _ iv _ _=>n-(intOf iv).toNat)
   case atStart=>exact⟨0,_,_,rfl,As _,aQ,aP,ca⟩
   case round=>
    obtain⟨i,s1,s2,rfl,ci,hb,hT,hB⟩:=hrel;by_cases hc:i<n
    .have bP:(i:Int)<n:=ao9;have ch:(0:Int)<=(i:Int):=ao9;obtain⟨l,hl⟩:=h.out.get hc;obtain⟨ba,cE,sl,cN,rfl,cm,bo,aY,bW,bU⟩:=h.out.cell i l hl;have aT:=aF.out l (Ai hl);obtain⟨ln,aM⟩:=Ex (l.length);rw[<-aM]at bo aY bW bU aT;have cl:=(Af hb.out cm).trans bo;obtain⟨r1,aN⟩:=Ex (G8 (Lv o d) after i);obtain⟨r2,aO⟩:=Ex (G8 (K1 o d) after i);have q1:r1[i]?=O []:=(by rw[aN,Zg _ _ _ _ (by rw[s.out];exact hc),Ac ao9]);have q2:r2[i]?=O []:=(by rw[aO,Zg _ _ _ _ (by rw[s.out];exact hc),Ac ao9]);have p1:r1.length=n:=(by rw[aN,Vr,s.out]);have p2:r2.length=n:=(by rw[aO,Vr,s.out]);have n1:G8 (Lv o d) after (i+1)=r1.set i (Di o d l ln).1:=(by rw[aN,aM];show(G8 (Lv o d) after i).set i (Lv o d ((after[i]?).getD []))=_;rw[Iq hl];rfl);have n2:G8 (K1 o d) after (i+1)=r2.set i (Lib.compact (K0 (Di o d l ln).2)):=(by rw[aO,aM];show(G8 (K1 o d) after i).set i (K1 o d ((after[i]?).getD []))=_;rw[Iq hl];rfl);rw[<-aN,<-aO]at hT
     have cd:Hid (jh w.heap.size g1 g2 n fl s1 s2 (r1.set i (Di o d l 0).1) (r2.set i (Di o d l 0).2) wr):=Hh (by
      show jh w.heap.size g1 g2 n fl s1 s2 (r1.set i []) (r2.set i []) wr;rw[Zi q1,Zi q2]
      exact hT.out)
     have cb:Hid (∀(k:Nat) (x:Int),k<0->l[k]?=O x->G4 o d.length x=false):=Hh λk x hk=>by omega
     have bw:=Zh o d l (λx hx=>(a8.out x hx).2);clear hT;replace⟨hl,bo,aY,bW,bU,aT,aM,aN⟩:=H8 hl bo aY bW bU aT aM aN;replace⟨aO,q1,q2,p1,p2,n1,n2,bw⟩:=H8 aO q1 q2 p1 p2 n1 n2 bw;go_upto_region 17 with fail;clear cl;go_wp2_with fail;go_loopw [16,17,18,83] (λ_ _ _ jv wr=>∃(j:Nat) (s1 s2:List VL),jv=Z G j/\j<=ln/\Hid (BW w.heap.size w wr)/\Hid (jh w.heap.size g1 g2 n fl s1 s2 (r1.set i (Di o d l j).1) (r2.set i (Di o d l j).2) wr)/\Hid (∀(k:Nat) (x:Int),k<j->l[k]?=O x->G4 o d.length x=false)) (λ_ _ _ jv _=>ln-(intOf jv).toNat)
     case atStart=>exact⟨0,_,_,rfl,As _,hb,cd,cb⟩
     case round=>
      obtain⟨j,s1,s2,rfl,cG,hb,hT,b0⟩:=hrel;by_cases hd:j<ln
      .have bg:(j:Int)<ln:=ao9;have bx:(0:Int)<=(j:Int):=ao9;obtain⟨x,hx⟩:∃x,l[j]?=O x:=aY.out.get hd;obtain⟨b3,cD,rfl,al,aI⟩:=aY.out.cell j x hx;have cx:=(Af hb.out al).trans aI;obtain⟨nn,aK⟩:=Ex (-(n:Int));have cK:IntKind.i64.wrap (-(n:Int))=nn:=(by rw[aK];exact Ja ao9 ao9);by_cases aD:G4 o d.length x=true
       .have p:r=([],90):=(by rw[bE.out,Ad];exact Kl.2 ⟨l,Ai hl.out,Aeb hx aD⟩);have a2:x=0\/o<=x\/x < -(n:Int):=(by have:=aA.out;simp[G4]at aD;omega);clear aD;by_cases e0:x=0
        .subst e0;clear a2;replace⟨hx,aI,al,p,aK⟩:=H5 hx aI al p aK;go_wp2_with fail;exact Al (v:=E #[V I 0 0,Z G 90]) (by simp[results,results99,go_sem]) rfl (It.bad p.out ad9 hb.out)
        .by_cases e1:x>=o
         .clear a2;replace⟨hx,aI,al,p,aK⟩:=H5 hx aI al p aK;go_wp2_with fail;exact Al (v:=E #[V I 0 0,Z G 90]) (by simp[results,results99,go_sem]) rfl (It.bad p.out ad9 hb.out)
         .have e2:x<nn:=ao9;clear a2;replace⟨hx,aI,al,p,aK⟩:=H5 hx aI al p aK;go_wp2_with fail;exact Al (v:=E #[V I 0 0,Z G 90]) (by simp[results,results99,go_sem]) rfl (It.bad p.out ad9 hb.out)
       .have hg:=aA.out;have e0:¬x=0:=λe=>aD (by simp[G4,e]);have e1:¬x>=o:=λe=>aD (by simp[G4];omega);have e2:¬x<nn:=λe=>aD (by simp[G4];omega);obtain⟨ra,aB⟩:=Ex ((Di o d l j).1);obtain⟨rb,aC⟩:=Ex ((Di o d l j).2);have aL:=bw.out j;rw[<-aB,<-aC]at aL;rw[<-aB,<-aC]at hT
        have b1:Hid (∀(k:Nat) (y:Int),k<j+1->l[k]?=O y->G4 o d.length y=false):=Hh λk y hk hy=>by
         by_cases e:k=j
         .subst e;rw[hx]at hy;injection hy with hy;subst hy;simpa using aD
         .exact b0.out k y ao9 hy
        have q3:(r1.set i ra)[i]?=O ra:=(by rw[D3,Ad rfl,Ad (by have:=p1.out;omega)]);have q4:(r2.set i rb)[i]?=O rb:=(by rw[D3,Ad rfl,Ad (by have:=p2.out;omega)]);clear aD;by_cases ct:x > 0
        .have a5:Di o d l (j+1)=(ra,rb++[x]):=(by show Nn o d (Di o d l j) ((l[j]?).getD 0)=_;rw[Iq hx];unfold Nn;rw[Ad ct,aB,aC]);obtain⟨bf,n3,c3,l3,t1,t2,t3,t4,t5,t6,t7,t8,t9,aH,_⟩:=hT.out.symm.app (i:=i) (by rw[Dy];have:=p2.out;omega) x;rw[q4]at t2;injection t2 with t2;subst t2;have ad:n3<=1000000000:=(by have:=aT.out;omega);clear t5;replace⟨hx,aI,al,aK,aB,aC,aL,q3⟩:=H8 hx aI al aK aB aC aL q3;replace⟨q4,a5,t1,t3,t6,t7,t8,t9⟩:=H8 q4 a5 t1 t3 t6 t7 t8 t9;replace⟨aH,ad,hg⟩:=H3 aH ad hg;go_upto_region 20 with fail;clear bx bg;go_upto_region 23 with fail;clear cx;have cj:=aT.out;have bg:(j:Int)<ln:=ao9;have bx:(0:Int)<=(j:Int):=ao9;go_wp2_with (at_builtin;refine Nm rfl _ _ rfl w.heap.size n3 _ rfl t7.out t3.out ⟨wr.heap.size,0,I⟩ 1 rfl x t8.out ad.out t9.out ?_;intro g7 ap w7 h7 ac aE;obtain⟨k7,f7⟩:=aH.out w7 ac;replace⟨h7,ac,aE⟩:=H3 h7 ac aE)
         have u:=(hT.out.symm.put t6.out t1.out q4.out ac.out h7.out (λk hk=>by
          simp[Value.ownBlock]at hk;subst hk;rcases aE.out with e|e
          .exact .inl e
          .exact .inr e)).symm
         have am:BW w.heap.size w (w7.setCell ⟨g2,i,I⟩ (V (O ⟨g7,0,I⟩) (n3+1) ap)):=hT.out.symm.below hb.out t6.out t1.out ac.out;rw[Qx]at u;have bM:Hid (jh w.heap.size g1 g2 n fl s1 (s2.set i (V (O ⟨g7,0,I⟩) (n3+1) ap)) (r1.set i (Di o d l (j+1)).1) (r2.set i (Di o d l (j+1)).2) (w7.setCell ⟨g2,i,I⟩ (V (O ⟨g7,0,I⟩) (n3+1) ap))):=Hh (by rw[a5.out];exact u);clear u;replace am:=Hh am;go_roundw
         case rel=>
          exact⟨j+1,_,_,by go_num,ao9,am,bM,b1⟩
         case measure=>
          simp[intOf];omega
        .obtain ⟨kk,b4⟩:∃kk:Nat,x=-1-(kk:Int):=⟨(-1-x).toNat,ao9⟩;have cH:kk<n:=ao9;have cw:(kk:Int)<(n:Int)+1:=ao9;have cs:IntKind.i64.wrap (-1-x)=(kk:Int):=(by rw[Ja ao9 ao9];omega);obtain⟨z,hz⟩:=Ge d kk ao9;have bn:=a8.out z (Ai hz);obtain⟨f,hf⟩:=Ex (D9 o d kk);have bQ:D9 o d (kk+1)=f+z:=(by rw[hf];show D9 o d kk+(d[kk]?).getD 0=_;rw[Iq hz]);have aW:=Alg o d a8.out kk;rw[<-hf]at aW;have e4:=aR.out kk ao9;rw[<-hf]at e4;have e5:=aR.out (kk+1) ao9;rw[bQ]at e5;obtain⟨f2,bi⟩:=Ex (f+z);rw[<-bi]at e5
         have a5:Di o d l (j+1)=(ra++[(kk:Int)],rb++Kg f z.toNat):=by
          show Nn o d (Di o d l j) ((l[j]?).getD 0)=_;rw[Iq hx];unfold Nn;rw[Ac ao9];have e:-1-x=(kk:Int):=ao9;rw[e,K7,<-hf,Iq hz,aB,aC]
         obtain⟨bf,n3,c3,l3,t1,t2,t3,t4,t5,t6,t7,t8,t9,aH,_⟩:=hT.out.app (i:=i) (by rw[Dy];have:=p1.out;omega) (kk:Int);rw[q3]at t2;injection t2 with t2;subst t2;have ad:n3<=1000000000:=(by have:=aT.out;omega);clear t5;replace⟨hx,aI,al,aK,aB,aC,aL,q3⟩:=H8 hx aI al aK aB aC aL q3;replace⟨q4,a5,t1,t3,t6,t7,t8,t9⟩:=H8 q4 a5 t1 t3 t6 t7 t8 t9;replace⟨aH,ad,hg,b4,hz,bn,hf,bQ⟩:=H8 aH ad hg b4 hz bn hf bQ;replace⟨aW,e4,e5,bi⟩:=H4 aW e4 e5 bi;go_upto_region 20 with fail;clear bx bg;go_upto_region 25 with fail;clear cx;go_upto_region 26 with(at_builtin;refine Nm rfl _ _ rfl w.heap.size n3 _ rfl t7.out t3.out ⟨wr.heap.size,0,I⟩ 1 rfl (kk:Int) t8.out ad.out t9.out ?_;intro g7 ap w7 h7 ac aE;obtain⟨k7,f7⟩:=aH.out w7 ac;replace⟨h7,ac,aE⟩:=H3 h7 ac aE)
         have u:=hT.out.put t6.out t1.out q3.out ac.out h7.out (λk hk=>by
          simp[Value.ownBlock]at hk;subst hk;rcases aE.out with e|e
          .exact .inl e
          .exact .inr e)
         have am:BW w.heap.size w (w7.setCell ⟨g1,i,I⟩ (V (O ⟨g7,0,I⟩) (n3+1) ap)):=hT.out.below hb.out t6.out t1.out ac.out;rw[Qx]at u;obtain⟨W3,bO⟩:=Ex (w7.setCell ⟨g1,i,I⟩ (V (O ⟨g7,0,I⟩) (n3+1) ap));rw[<-bO]at u am;rw[<-bO]
         have cf:=u.first.cell e4.out
         have bM:Hid (jh w.heap.size g1 g2 n fl (s1.set i (V (O ⟨g7,0,I⟩) (n3+1) ap)) s2 (r1.set i (ra++[(kk:Int)])) (r2.set i (rb++Kg f 0)) W3):=Hh (by simpa[Kg]using u);clear u bO k7 f7 t4 h7 ac aE hT t1 t3 t6 t7 t8 t9 aH;have cp:Hid (f=f+((0:Nat):Int)):=Hh as9;replace am:=Hh am;go_wp2_with fail;clear cf;go_loopw [18] (λbY wr=>∃(vt:Int) (t:Nat) (s2:List VL),bY=Z G vt/\Hid (vt=f+(t:Int))/\t<=z.toNat/\Hid (BW w.heap.size w wr)/\Hid (jh w.heap.size g1 g2 n fl (s1.set i (V (O ⟨g7,0,I⟩) (n3+1) ap)) s2 (r1.set i (ra++[(kk:Int)])) (r2.set i (rb++Kg f t)) wr)) (λbY _=>(f2-intOf bY).toNat)
         case atStart=>exact⟨f,0,_,rfl,cp,As _,am,bM⟩
         case round=>
          obtain⟨vt,t,s2,rfl,bl,cJ,hb,hT⟩:=hrel
          have b8:=hT.out.first.cell e5.out
          by_cases hm:t<z.toNat
          .have be:vt<f2:=(by have:=bl.out;have:=bi.out;omega);have cL:IntKind.i64.wrap (vt+1)=vt+1:=(by have:=bl.out;have:=aW.out;have:=bn.out;exact Ja ao9 ao9);have cr:Hid (vt+1=f+((t+1:Nat):Int)):=Hh (by have:=bl.out;push_cast;omega);have q5:(r2.set i (rb++Kg f t))[i]?=O (rb++Kg f t):=(by rw[D3,Ad rfl,Ad (by have:=p2.out;omega)]);obtain⟨cO,n4,cF,l4,t1,t2,t3,t4,t5,t6,t7,t8,t9,aH,_⟩:=hT.out.symm.app (i:=i) (by rw[Dy];have:=p2.out;omega) vt;rw[q5]at t2;injection t2 with t2;subst t2;have ad:n4<=1000000000:=(by have:=aT.out;have:=aL.out;have:=bn.out;simp[Kg]at t3;omega);have bj:Hid ((f2-(vt+1)).toNat<(f2-vt).toNat):=Hh ao9;clear t5;replace⟨q5,t1,t3,t6,t7,t8,t9,aH⟩:=H8 q5 t1 t3 t6 t7 t8 t9 aH;replace ad:=Hh ad;go_upto_region 29 with fail;clear b8;go_wp2_with (at_builtin;refine Nm rfl _ _ rfl w.heap.size n4 _ rfl t7.out t3.out ⟨wr.heap.size,0,I⟩ 1 rfl vt t8.out ad.out t9.out ?_;intro g8 bZ w7 h7 ac aE;obtain⟨k7,f7⟩:=aH.out w7 ac;replace⟨h7,ac,aE⟩:=H3 h7 ac aE)
           have u:=(hT.out.symm.put t6.out t1.out q5.out ac.out h7.out (λk hk=>by
          simp[Value.ownBlock]at hk;subst hk;rcases aE.out with e|e
          .exact .inl e
          .exact .inr e)).symm
           have am:BW w.heap.size w (w7.setCell ⟨g2,i,I⟩ (V (O ⟨g8,0,I⟩) (n4+1) bZ)):=hT.out.symm.below hb.out t6.out t1.out ac.out;rw[Qx]at u;have bJ:Kg f t++[vt]=Kg f (t+1):=(by rw[Ayx,<-bl.out]);rw[K6,bJ]at u;clear bJ;replace⟨am,u⟩:=H2 am u;go_roundw
           case rel=>exact⟨vt+1,t+1,_,by go_num,cr,ao9,am,u⟩
           case measure=>simpa[intOf]using bj.out
          .have be:¬vt<f2:=(by have:=bl.out;have:=bi.out;have:=bn.out;omega);have b6:t=z.toNat:=ao9;have ce:Hid (jh w.heap.size g1 g2 n fl (s1.set i (V (O ⟨g7,0,I⟩) (n3+1) ap)) s2 (r1.set i (Di o d l (j+1)).1) (r2.set i (Di o d l (j+1)).2) wr):=Hh (by rw[a5.out,<-b6];exact hT.out);clear b6 hT;have cj:=aT.out;have bg:(j:Int)<ln:=ao9;have bx:(0:Int)<=(j:Int):=ao9;go_wp2_with fail;go_roundw
           case rel=>
            exact⟨j+1,_,_,by go_num,ao9,hb,ce,b1⟩
           case measure=>
            simp[intOf];omega
      .have bg:¬(j:Int)<ln:=ao9;have bA:ln=j:=ao9;obtain⟨ra,aB⟩:=Ex ((Di o d l j).1);obtain⟨rb,aC⟩:=Ex ((Di o d l j).2);have aL:=bw.out j;have bG:=n1.out;have bH:=n2.out;rw[bA,<-aB]at bG;rw[bA,<-aC]at bH;rw[<-aB,<-aC]at hT aL;have q4:(r2.set i rb)[i]?=O rb:=(by rw[D3,Ad rfl,Ad (by have:=p2.out;omega)]);obtain⟨bf,n3,c3,l3,t1,t2,t3,t4,t5,_,_,_,_,_,bI⟩:=hT.out.symm.app (i:=i) (by rw[Dy];have:=p2.out;omega) 0;rw[q4]at t2;injection t2 with t2;subst t2;have bC:rb.length<=1000000:=(by have:=aT.out;omega);have a7:=Ayv t5 bC;have a3:∀w1,Am w1 w.heap.size (V bf n3 c3) (K0 rb)->CS prog 155 #[V bf n3 c3] w1 λe w'=>∃v',e=Y v'/\Am w' w.heap.size v' (Lib.compact (K0 rb))/\Mod (λb=>(Value.slice bf n3 c3).ownBlock=O b) w1 w'/\v'.ownBlock=(Value.slice bf n3 c3).ownBlock:=λw1 h1=>Ayw h1 (by rw[Zf];exact bC)
       have cc:Hid (∀(k:Nat) (l':List Int),k<i+1->after[k]?=O l'->l'.any (G4 o d.length)=false):=Hh λk l' hk aS=>by
        by_cases e:k=i
        .subst e;rw[hl.out]at aS;injection aS with aS;subst aS;refine List.any_eq_false.2 λy hy=>?_;obtain⟨q,hq⟩:=B4 hy;have cI:=(An.1 hq).1;rw[b0.out q y (by have:=aM.out;omega) hq];decide
        .exact hB.out k l' ao9 aS
       replace⟨aB,aC,bG,bH,aL,q4,t1,t3⟩:=H8 aB aC bG bH aL q4 t1 t3;replace⟨t5,bI,bC,a7,a3,bA⟩:=H6 t5 bI bC a7 a3 bA;go_upto_region 32 with(go_at_call 91;(with_reducible refine(a7.out).mono ?_);rintro e w1 ⟨rfl,bV,be⟩;obtain⟨k1,f1⟩:=bI.out w1 be;replace⟨bV,be⟩:=H2 bV be);clear t4;go_wp2_with (go_at_call 155;(with_reducible refine(a3.out _ bV.out).mono ?_);rintro e w2 ⟨v2,rfl,bD,bj,bX⟩;obtain⟨cv,n5,c5,rfl,b5⟩:=bD.len;replace b5:=Hh b5;have bk:=be.out.trans bj;obtain⟨k2,f2⟩:=bI.out w2 bk;clear k1 f1;replace⟨bD,bj,bk,bX⟩:=H4 bD bj bk bX);have u:=(hT.out.symm.put (Below.refl _ _) t1.out q4.out (Mod.grownBy bk.out) bD.out (λk hk=>.inl (by rw[<-bX.out];exact hk))).symm;have am:BW w.heap.size w (w2.setCell ⟨g2,i,I⟩ (V cv n5 c5)):=hT.out.symm.below hb.out (Below.refl _ _) t1.out (Mod.grownBy bk.out);rw[Qx,<-bG.out,<-bH.out]at u;replace⟨u,am⟩:=H2 u am;go_roundw
       case rel=>exact⟨i+1,_,_,by go_num,ao9,am,u,cc⟩
       case measure=>simp[intOf];omega
    .have bP:¬(i:Int)<n:=ao9;have a4:n=i:=ao9;have aP:=hT.out;rw[<-a4,<-s.out,Alf,Alf]at aP;have p:r=if Kf (after.map (Lv o d))=false then([],91)else(after.map (K1 o d),0):=by rw[bE.out,Ac];intro e;obtain⟨l',aS,hp⟩:=Kl.1 e;obtain⟨k,hk⟩:=B4 aS;have:=(An.1 hk).1;rw[hB.out k l' (by have:=s.out;omega) hk]at hp;cases hp
     have bF:=aP.a.rows (by rw[Ar];have:=s.out;omega) (λl' aS=>by
      obtain⟨l0,h0,rfl⟩:=A5.1 aS;have h1:=aF.out l0 h0;have h2:=(Zh o d l0 (λx hx=>(a8.out x hx).2) l0.length).1;show(Di o d l0 l0.length).1.length<=100000
      omega)
     rw[Ar,s.out]at bF;have aV:=Ays (O ⟨g1,0,I⟩) n n (after.map (Lv o d)) wr bF;by_cases a9:Kf (after.map (Lv o d))=true
     .rw [a9]at aV;have an:r=(after.map (K1 o d),0):=(by rw[p,a9,Ac ad9]);clear p a9 bF hT;replace⟨aP,an,aV,a4⟩:=H4 aP an aV a4;go_wp2_with (go_at_call 156;(with_reducible refine(aV.out).mono ?_);rintro e w1 ⟨rfl,aU⟩;replace aU:=Hh aU);refine Al (v:=E #[V (O ⟨g2,0,I⟩) n n,Z G 0]) (by simp[results,results99,go_sem]) rfl ⟨_,by rw[an.out],λe=>absurd (by rw[an.out]) e,λ_=>⟨g2,s2,?_,?_⟩,hb.out.trans (aU.out.mono hb.out.size)⟩
      .rw [an.out,Ar,s.out]
      .have:=aP.out.b.low aU.out;rw[an.out,Ar];exact this
     .rw [Aa3]at a9;rw[a9]at aV;have an:r=([],91):=(by rw[p,a9,Ad rfl]);clear p a9 bF hT;replace⟨aP,an,aV,a4⟩:=H4 aP an aV a4;go_wp2_with (go_at_call 156;(with_reducible refine(aV.out).mono ?_);rintro e w1 ⟨rfl,aU⟩;replace aU:=Hh aU);exact Al (v:=E #[V I 0 0,Z G 91]) (by simp[results,results99,go_sem]) rfl (It.bad an.out ad9 (hb.out.trans (aU.out.mono hb.out.size)))
