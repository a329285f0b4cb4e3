/- Parts of a proof. No condition. -/
import Derived.Test.YtimlcnhcjndijaaGreatDoorF27
import Derived.Test.YtimlcnhcjndijaaGreatDoorF30
import Derived.Test.YtimlcnhcjndijaaGreatDoorF31
set_option linter.all false
set_option maxRecDepth 100000
set_option maxHeartbeats 4000000
namespace Go.Proofs.YtimlcnhcjndijaaGreatDoor
open Go renaming World->WD,Value->VL,Calls->CS
open Go.RowKit renaming Below->BW
open Go.Proofs.Tryz
section
open Go.RowKit Go.Maps Go.Lib
structure Q0 (w:WD) (ao:Option Addr) (n:Nat) (ls:List (List Int)):Prop where
 len:ls.length=n
 max:n<=1000
 cell:∀ i l,ls[i]?=some l->∃ b off so sc,ao=some ⟨b,off,none⟩/\b<w.heap.size/\w.cell? ⟨b,off+i,none⟩=some (.slice so l.length sc)/\Ar w so l.length l/\l.length<=sc/\l.length<=100000
def Q0.get {w:WD} {b:Option Addr} {n:Nat} {a:List (List Int)} (h:Q0 w b n a) {i:Nat} (c:i<n):∃ l,a[i]?=some l:=⟨a[i]'(by rw [h.len];exact c),A4 _⟩
structure ij (w:WD) (n bc:Nat) (svs:List VL) (st:List Int×List (List Int)) (wr:WD):Prop where
 low:BW w.heap.size w wr
 left:Al wr w.heap.size (.slice (some ⟨w.heap.size,0,none⟩) n n) st.1
 back:Cw wr w.heap.size (w.heap.size+1) bc svs st.2
 ne:∀ (i:Nat) (sv:VL),svs[i]?=some sv->sv.ownBlock≠some w.heap.size
 l1:st.1.length=n
 l2:st.2.length=n
variable {w wr w1:WD} {n bc:Nat} {svs:List VL} {st:List Int×List (List Int)}
def ij.td (h:ij w n bc svs st wr) (o:Nat):wr.frozen? ⟨w.heap.size,o,none⟩=false:=by
 obtain ⟨c,a,_⟩:=Cq h.left.row (g:=w.heap.size) rfl;exact Af a o
def ij.size (h:ij w n bc svs st wr):w.heap.size+1<wr.heap.size:=h.back.ar.2.1
def ij.drop (h:ij w n bc svs st wr) (a:BW wr.heap.size wr w1):ij w n bc svs st w1:=
 ⟨h.low.trans (a.mono h.low.size),h.left.mod (Mod.af (S:=fun _=>False) a) (fun _ _ c=>c),h.back.low a,h.ne,h.l1,h.l2⟩
def ij.ji (h:ij w n bc svs st wr) (i:Nat) (y:Int):ij w n bc svs (st.1.set i y,st.2) (wr.setCell ⟨w.heap.size,i,none⟩ (.int .i64 y)):=by
 have d:Mod (fun k=>k=w.heap.size) wr (wr.setCell ⟨w.heap.size,i,none⟩ (.int .i64 y)):=Mod.setCell wr w.heap.size i _ rfl;refine ⟨B9 h.low Ln,⟨?_⟩,h.back.off d (by omega) (fun j f b k c e=>h.ne j f b (by rw [c,e])),h.ne,by rw [Dm];exact h.l1,h.l2⟩;have a:=h.left.row;rw [h.l1] at a;have:=(a.stored i (.int .i64 y)).1;rw [Dm,h.l1];have e:Bu (st.1.set i y)=(Bu st.1).set i (.int .i64 y):=by simp [Bu,Mv]
 rw [e];exact this
def ij.grow (h:ij w n bc svs st wr) (q:BW wr.heap.size wr w1) {w2:WD} {i:Nat} {c f:VL} {l l':List Int} (g:svs[i]?=some c) (r:st.2[i]?=some l) (m:w1.grownBy w2 c.ownBlock) (t:Al w2 w.heap.size f l')
  (p:∀ k,f.ownBlock=some k->c.ownBlock=some k\/k=w1.heap.size):ij w n bc (svs.set i f) (st.1,st.2.set i l') (w2.setCell ⟨w.heap.size+1,i,none⟩ f):=by
 have h1:=h.drop q;have d:=h1.back.put g r m t p;have o:=(h1.back.each i c l g r).lt;have x:=h.size;have v:=q.size;refine ⟨B9 ?_ (by omega),?_,d,?_,h.l1,by rw [Dm];exact h.l2⟩
 .exact h1.low.grown m h1.low.size (fun k a=>(o k a).1)
 .have s:=Mod.grown m (fun k a=>a);exact (h1.left.mod s (fun k a e=>by simp [Value.ownBlock] at a;subst a;exact h.ne i c g e)).mod (Mod.setCell (S:=fun k=>k=w.heap.size+1) w2 (w.heap.size+1) i f rfl) (fun k a e=>by simp [Value.ownBlock] at a;omega)
 .intro j u b e;rw [Do] at b;split at b
  .split at b
   .injection b with b;subst b;rcases p _ e with e | e
    .exact h.ne i c g e
    .omega
   .cases b
  .exact h.ne j u b e
structure ig (w:WD) (n bc:Nat) (svs:List VL) (back:List (List Int)) (fv ov:VL) (s:qk) (wr:WD):Prop where
 or:ij w n bc svs (s.left,back) wr
 free:C7 wr w.heap.size fv s.free
 out:Al wr w.heap.size ov s.out
 f0:fv.ownBlock≠some w.heap.size
 fs:∀ (i:Nat) (sv:VL),svs[i]?=some sv->∀ k,fv.ownBlock=some k->sv.ownBlock≠some k
 o0:ov.ownBlock≠some w.heap.size
 os:∀ (i:Nat) (sv:VL),svs[i]?=some sv->∀ k,ov.ownBlock=some k->sv.ownBlock≠some k
 fo:∀ k,fv.ownBlock=some k->ov.ownBlock≠some k
variable {back:List (List Int)} {fv ov fv' ov':VL} {s:qk} {w2:WD} {l':List Int}
def C7.tw {v:VL} {l:List Int} {B b:Nat} {c:Array VL} (h:C7 w B v l) (a:w.heap[b]?=some (.cells c 31 (0,0))):v.ownBlock≠some b:=fun e=>by
 obtain ⟨f,d⟩:=h.ar e;rw [d] at a;injection a with a;injection a with _ a;exact absurd a (by decide)
def ig.drop (h:ig w n bc svs back fv ov s wr) (a:BW wr.heap.size wr w1):ig w n bc svs back fv ov s w1:=
 ⟨h.or.drop a,h.free.mod (Mod.af (S:=fun _=>False) a) (fun _ _ c=>c),h.out.mod (Mod.af (S:=fun _=>False) a) (fun _ _ c=>c),h.f0,h.fs,h.o0,h.os,h.fo⟩
def ig.ji (h:ig w n bc svs back fv ov s wr) (i:Nat) (y:Int):ig w n bc svs back fv ov ⟨s.left.set i y,s.free,s.out⟩ (wr.setCell ⟨w.heap.size,i,none⟩ (.int .i64 y)):=
 have b:Mod (fun k=>k=w.heap.size) wr (wr.setCell ⟨w.heap.size,i,none⟩ (.int .i64 y)):=Mod.setCell wr w.heap.size i _ rfl
 ⟨h.or.ji (st:=(s.left,back)) i y,h.free.mod b (fun k a e=>h.f0 (by rw [a,e])),h.out.mod b (fun k a e=>h.o0 (by rw [a,e])),h.f0,h.fs,h.o0,h.os,h.fo⟩
def ij.iy (h:ij w n bc svs st wr) {S:Nat->Prop} (a:Mod S wr w1) (h0:¬ S w.heap.size) (h1:¬ S (w.heap.size+1)) (f:∀ (i:Nat) (d:VL),svs[i]?=some d->∀ k,d.ownBlock=some k->¬ S k) (e:∀ k,S k->w.heap.size<=k):ij w n bc svs st w1:=
 ⟨⟨a.os.trans h.low.os,a.tape.trans h.low.tape,a.output.trans h.low.output,A5 h.low.size a.size,fun k b=>(a.block k (Bx b h.low.size) (fun c=>by have:=e k c;omega)).trans (h.low.block k b)⟩,
  h.left.mod a (fun k b=>by simp [Value.ownBlock] at b;subst b;exact h0),h.back.off a h1 f,h.ne,h.l1,h.l2⟩
def ig.ry (h:ig w n bc svs back fv ov s wr) (m:BW wr.heap.size wr w1) (l:Mod (fun b=>fv.ownBlock=some b) w1 w2) (r:C7 w2 w.heap.size fv' l') (g:∀ k,fv'.ownBlock=some k->fv.ownBlock=some k\/k=w1.heap.size):ig w n bc svs back fv' ov ⟨s.left,l',s.out⟩ w2:=by
 have h1:=h.drop m;obtain ⟨t,q,c,p⟩:=h1.or.back.ar;refine ⟨h1.or.iy l h.f0 (h1.free.tw p) (fun i f d k a e=>h.fs i f d k e a) (fun k a=>(h.free.lt k a).1),r,h1.out.mod l (fun k a e=>h.fo k e a),fun e=>?_,fun i f d k a e=>?_,h.o0,h.os,fun k a e=>?_⟩
 .rcases g _ e with e | e
  .exact h.f0 e
  .omega
 .rcases g k a with c | c
  .exact h.fs i f d k c e
  .have j:i<back.length:=(by have o:svs.length=back.length:=h.or.back.len;have:=(Ao.1 d).1;omega);have:=((h1.or.back.each i f _ d (A4 j)).lt k e).2;omega
 .rcases g k a with c | c
  .exact h.fo k c e
  .have:=(h1.out.lt k e).2;omega
def ig.tz (h:ig w n bc svs back fv ov s wr) (m:BW wr.heap.size wr w1) (l:Mod (fun b=>ov.ownBlock=some b) w1 w2) (r:Al w2 w.heap.size ov' l') (g:∀ k,ov'.ownBlock=some k->ov.ownBlock=some k\/k=w1.heap.size):ig w n bc svs back fv ov' ⟨s.left,s.free,l'⟩ w2:=by
 have h1:=h.drop m;obtain ⟨t,q,c,p⟩:=h1.or.back.ar;refine ⟨h1.or.iy l h.o0 (Bo h1.out.row p (by decide)) (fun i f d k a e=>h.os i f d k e a) (fun k a=>(h.out.lt k a).1),h1.free.mod l (fun k a e=>h.fo k a e),r,h.f0,h.fs,fun e=>?_,fun i f d k a e=>?_,fun k a e=>?_⟩
 .rcases g _ e with e | e
  .exact h.o0 e
  .omega
 .rcases g k a with c | c
  .exact h.os i f d k c e
  .have j:i<back.length:=(by have o:svs.length=back.length:=h.or.back.len;have:=(Ao.1 d).1;omega);have:=((h1.or.back.each i f _ d (A4 j)).lt k e).2;omega
 .rcases g k e with c | c
  .exact h.fo k a c
  .have:=(h1.free.lt k a).2;omega
def ig.tail {g a m cap:Nat} {x:Int} {l:List Int} (h:ig w n bc svs back (.slice (some ⟨g,a,none⟩) m cap) ov s wr) (c:s.free=x :: l):ig w n bc svs back (.slice (some ⟨g,if cap=1 then a else a+1,none⟩) l.length (cap-1)) ov ⟨s.left,l,s.out⟩ wr:=by
 have b:=h.free;rw [c] at b;exact ⟨h.or,b.tail,h.out,h.f0,h.fs,h.o0,h.os,h.fo⟩
structure qi (w:WD) (n bc:Nat) (svs:List VL) (st:List Int×List (List Int)) (fv:VL) (l:List Int) (wr:WD):Prop where
 or:ij w n bc svs st wr
 free:Al wr w.heap.size fv l
 f0:fv.ownBlock≠some w.heap.size
 fs:∀ (i:Nat) (sv:VL),svs[i]?=some sv->∀ k,fv.ownBlock=some k->sv.ownBlock≠some k
def qi.start (h:ij w n bc svs st wr):qi w n bc svs st (.slice none 0 0) [] wr:=
 ⟨h,Al.nil _ _,by simp [Value.ownBlock],fun _ _ _ k a=>by simp [Value.ownBlock] at a⟩
def qi.q {l:List Int} (h:qi w n bc svs (s.left,back) fv l wr):ig w n bc svs back fv (.slice none 0 0) ⟨s.left,l,[]⟩ wr:=
 ⟨h.or,C7.of h.free,Al.nil _ _,h.f0,h.fs,by simp [Value.ownBlock],fun _ _ _ k a=>by simp [Value.ownBlock] at a,fun k a=>by simp [Value.ownBlock]⟩
def qi.set {l:List Int} (h:qi w n bc svs st fv l wr) (m:BW wr.heap.size wr w1) (s:Mod (fun b=>fv.ownBlock=some b) w1 w2) (t:Al w2 w.heap.size fv' l') (j:∀ k,fv'.ownBlock=some k->fv.ownBlock=some k\/k=w1.heap.size):qi w n bc svs st fv' l' w2:=by
 have h1:=h.or.drop m;have o:=h.free.mod (Mod.af (S:=fun _=>False) m) (fun _ _ c=>c);obtain ⟨u,r,c,q⟩:=h1.back.ar;refine ⟨h1.iy s h.f0 (Bo o.row q (by decide)) (fun i f a k d e=>h.fs i f a k e d) (fun k d=>(o.lt k d).1),t,fun e=>?_,fun i f a k d e=>?_⟩
 .rcases j _ e with e | e
  .exact h.f0 e
  .omega
 .rcases j k d with c | c
  .exact h.fs i f a k c e
  .have g:i<st.2.length:=(by have p:=h.or.back.len;have:=(Ao.1 a).1;omega);have:=((h1.back.each i f _ a (A4 g)).lt k e).2;omega
def Au9 {v:VL} {l:List Int} {B:Nat} (h:C7 w B v l) (i:l.Pairwise (·<=·)) (k:Int) (m:l.length<=1000000) :
  CS prog 264 #[v,.int .i64 k] w fun e w'=>(∃ b,e=.returned (.tuple #[.int .i64 (l.countP (·<k):Nat),.bool b]))/\∃ q,w'=w.drewN q:=by
 by_cases h0:l=[]
 .obtain ⟨so,c,rfl,_⟩:=h.form;subst h0;refine (Tryz.slices_BinarySearch_int_empty so c k w).mono ?_;rintro e w' ⟨rfl,rfl⟩;exact ⟨⟨_,rfl⟩,0,rfl⟩
 .obtain ⟨g,a,cap,rfl,_,_,_,_,f⟩:=h.pos (List.length_pos_iff.2 h0);refine (Tryz.slices_BinarySearch_int g a l.length cap l k w Ln (by omega) (fun j d=>by rw [f j l[j] (A4 d)];simp [List.getD,d]) (by rw [Oy];exact i)).mono ?_;rintro e w' ⟨rfl,q⟩;rw [Oy];exact ⟨⟨_,rfl⟩,q⟩
end
section
open Go.RowKit Go.Maps Go.Lib
def Aip:(prog.info? 31).map (fun i=>(i.zero,i.size,i.bytes))=some (some (.slice none 0 0),1,24):=by kernel_rfl
def Aiq (z:VL) (b:z.cells=#[z]) (n:Nat):madeCells z.cells n=(List.replicate n z).toArray:=by
 apply Y9.1;apply Ea;intro j;by_cases a:j<n
 .simp [madeCells,b,a,Nat.mod_one]
 .simp [madeCells,b,a]
def Air (n:Nat) (d:n<=1000000):∀ w:WD,(Instr.makeSlice 31 (.int .i64 (n:Int)) (.int .i64 (n:Int))).run prog w=.ok (.slice (some ⟨w.heap.size,0,none⟩) n n) (w.alloc (.cells (List.replicate n (Value.int .i64 0)).toArray 3 (0,0))):=by
 intro w;obtain ⟨i,b,c,h1,a⟩:=Cb M1;have:=run_make (P:=prog) w 31 3 i _ Nn b c .i64 .i64 n n (by omega) (by omega) (by rw [a];omega) (by omega);rw [this];simp only [J8,h1,Rm];rw [Aiq _ rfl]
def Ais (n:Nat) (d:n<=1000000):∀ w:WD,(Instr.makeSlice 137 (.int .i64 (n:Int)) (.int .i64 (n:Int))).run prog w=.ok (.slice (some ⟨w.heap.size,0,none⟩) n n) (w.alloc (.cells (List.replicate n (Value.slice none 0 0)).toArray 31 (0,0))):=by
 intro w;obtain ⟨i,b,c,h1,a⟩:=Cb Aip;have:=run_make (P:=prog) w 137 31 i _ underlying137 b c .i64 .i64 n n (by omega) (by omega) (by rw [a];omega) (by omega);rw [this];simp only [J8,h1,Rm];rw [Aiq _ rfl]
def Cw.made (w:WD) (B n:Nat) (f:B<=w.heap.size) (m:n<=1000000):Cw (w.alloc (.cells (List.replicate n (Value.slice none 0 0)).toArray 31 (0,0))) B w.heap.size n (List.replicate n (Value.slice none 0 0)) (List.replicate n []):=by
 refine ⟨?_,fun i o l h1 e=>?_,?_,by simp⟩
 .rw [Yq];exact World.ownsRow_lit w (List.replicate n (Value.slice none 0 0)).toArray n f (by unfold maxLen;omega) (by simp)
 .have c:=Q8 (Ai h1);have d:=Q8 (Ai e);subst c d;exact Al.nil _ _
 .refine Np.2 fun a b h j _ k g=>?_;simp [Value.ownBlock] at g
def Al.made (w:WD) (B n:Nat) (a:B<=w.heap.size) (b:n<=1000000):Al (w.alloc (.cells (List.replicate n (Value.int .i64 0)).toArray 3 (0,0))) B (.slice (some ⟨w.heap.size,0,none⟩) n n) (List.replicate n 0):=by
 refine ⟨?_⟩;have:=World.ownsRow_lit (base:=B) (e:=3) (size:=1) w (List.replicate n (Value.int .i64 0)).toArray n a (by unfold maxLen;omega) (by simp);rw [Yq];simpa [Bu] using this
def Ava (ao:Option Addr) (n c:Nat) (after:List (List Int)) (w:WD) (h:Q0 w ao n after) :
  CS prog 210 #[.slice ao n c] w fun e w'=>(∃ v,e=.returned (.tuple #[v,.bool (Ji after)]))/\BW w.heap.size w w':=by
 have hn:=h.max;have aJ:=h.len;have cV:=Air n (by omega);have cW:=Ais n (by omega)
 have bI:ij w n n (List.replicate n (.slice none 0 0)) (Jh after 0) ((w.alloc (.cells (List.replicate n (Value.int .i64 0)).toArray 3 (0,0))).alloc (.cells (List.replicate n (Value.slice none 0 0)).toArray 31 (0,0))):=by
  have h1:=Al.made w w.heap.size n Ln (by omega);have h2:=Cw.made (w.alloc (.cells (List.replicate n (Value.int .i64 0)).toArray 3 (0,0))) w.heap.size n (by simp) (by omega);have e:Jh after 0=(List.replicate n 0,List.replicate n []):=by simp [Jh,aJ]
  rw [e];refine ⟨Bn.alloc (by simp) _,h1.mod (Mod.alloc (fun _=>False) _ _) (fun _ _ c=>c),by simpa using h2,fun i sv hi=>?_,by simp,by simp⟩;have e1:=Q8 (Ai hi);subst e1;simp [Value.ownBlock]
 replace ⟨h,bI,aJ⟩:=H3 h bI aJ;go_enter func210,ntmps210;go_wp2_with fail;go_loopw [6,7,9,27,34] (fun _ _ _ iv _ wr=>∃ (i:Nat) (u:List VL),iv=.int .i64 i/\i<=n/\Hid (ij w n n u (Jh after i) wr)) (fun _ _ _ iv _ _=>n-(intOf iv).toNat)
 case atStart=>exact ⟨0,_,rfl,Aq _,bI⟩
 case round=>
  obtain ⟨i,u,rfl,cM,hO⟩:=hrel;by_cases hc:i<n
  .have cf:(i:Int)<n:=(by omega);have c5:(0:Int)<=(i:Int):=(by omega);obtain ⟨l,hl⟩:=h.get hc;obtain ⟨b,aX,so,sc,rfl,cA,bH,aR,b1,cP⟩:=h.cell i l hl;obtain ⟨m,hm⟩:=Ex (l.length);rw [<- hm] at bH aR b1 cP;have cl:=(Ag hO.low cA).trans bH;have z:Jh after (i+1)=Kp n i (Jh after i) l m:=(by show Kp after.length i (Jh after i) ((after[i]?).getD []) ((after[i]?).getD []).length=_;rw [aJ.out,Gu hl,<- hm]);obtain ⟨aK,bc⟩:=Ex (Jh after i)
   have bR:Tok n (100000*i) aK:=by
    have:=Tok.to (after:=after) (b:=100000) (fun l hl=>by
     obtain ⟨j,hj⟩:=Dg hl;obtain ⟨_,_,_,_,_,_,_,_,_,h6⟩:=h.cell j l hj
     exact h6) (i:=i) (by rw [aJ.out];exact cM)
    rw [aJ.out] at this;rw [bc];exact this
   rw [<- bc] at z hO;replace ⟨hl,hm,z,bc,bR,aR,b1,bH⟩:=H8 hl hm z bc bR aR b1 bH;go_wp2_with fail;clear cl;go_loopw [9,34] (fun _ jv wr=>∃ (j:Nat) (u:List VL),jv=.int .i64 j/\j<=m/\Hid (ij w n n u (Kp n i aK l j) wr)) (fun _ jv _=>m-(intOf jv).toNat)
   case atStart=>exact ⟨0,_,rfl,Aq _,hO⟩
   case round=>
    obtain ⟨j,u,rfl,cp,hO⟩:=hrel;by_cases hd:j<m
    .have bs:(j:Int)<m:=(by omega);have co:(0:Int)<=(j:Int):=(by omega);obtain ⟨k,y⟩:∃ k,l[j]?=some k:=aR.get hd;obtain ⟨b2,cY,rfl,cC,aY⟩:=aR.cell j k y;have ck:=(Ag hO.low cC).trans aY;have o:Kp n i aK l (j+1)=Pp n i (Kp n i aK l j) k:=(by show Pp n i (Kp n i aK l j) ((l[j]?).getD 0)=_;rw [Gu y]);have hT:=bR.row hc l j;obtain ⟨st,aC⟩:=Ex (Kp n i aK l j);rw [<- aC] at o hO hT;have aF:=hO.l1;have aG:=hO.l2;by_cases cr:0<=k
     .by_cases cy:k<(n:Int)
      .obtain ⟨kk,rfl⟩:∃ kk:Nat,k=(kk:Int):=⟨k.toNat,by omega⟩;have ct:kk<n:=(by omega);obtain ⟨x,hx⟩:=Ge st.1 i (by omega);have aW:=hT.left.at hx;have lx:=hO.left.cell hx;have cR:IntKind.i64.wrap (x+1)=x+1:=Id (by omega) (by omega);have fl:=hO.td i;obtain ⟨W1,aI⟩:=Ex (wr.setCell ⟨w.heap.size,i,none⟩ (.int .i64 (x+1)));have ac:=hO.ji i (x+1);rw [<- aI] at ac;obtain ⟨cG,n3,c3,l3,g1,g2,g3,g4,g5⟩:=ac.back.get (i:=kk) (by rw [ac.l2];exact ct);have cd:=(hT.back l3 (Ai g2)).1;have b3:=ac.size;have bA:=ac.back.ne g1 g2;have t:BW W1.heap.size W1 (W1.alloc (.cells #[.int .i64 (i:Int)] 3 (0,0))):=Bn;have bQ:=g5.mod (Mod.af (S:=fun _=>False) t) (fun _ _ c=>c);have cw:(W1.alloc (.cells #[.int .i64 (i:Int)] 3 (0,0))).cell? ⟨W1.heap.size,0,none⟩=some (.int .i64 (i:Int)):=Aa (Ah _ _) 0;have ap:w.heap.size<=(W1.alloc (.cells #[.int .i64 (i:Int)] 3 (0,0))).heap.size:=(by have:=t.size;omega);have bE:Kp n i aK l (j+1)=(st.1.set i (x+1),st.2.set kk (l3++[(i:Int)])):=by rw [o];unfold Pp;rw [Ad ⟨cr,cy⟩,Qz _ _ _ hx,J8,Qz _ _ _ g2]
       have a3:∀ w7,(W1.alloc (.cells #[.int .i64 (i:Int)] 3 (0,0))).grownBy w7 (Value.slice cG n3 c3).ownBlock->w7.cell? ⟨w.heap.size+1,kk,none⟩=some (.slice cG n3 c3)/\w7.frozen? ⟨w.heap.size+1,kk,none⟩=false:=fun w7 hg=>by
        have hb:=hg.block (w.heap.size+1) (by have:=t.size;omega) (fun e=>bA e.symm);have cb:=(t.block (w.heap.size+1) b3);exact ⟨(Bp (a:=⟨w.heap.size+1,kk,none⟩) (hb.trans cb)).trans g4,(Oq (a:=⟨w.heap.size+1,kk,none⟩) (hb.trans cb)).trans (ac.back.row.frozenAt kk)⟩
       have bX:=g3.symm;have bi:n3<=1000000000:=(by omega);replace ⟨y,aY,o,aC,hT,aF,aG,hx⟩:=H8 y aY o aC hT aF aG hx;replace ⟨aW,ac,g1,g2,g3,g5,cd,b3⟩:=H8 aW ac g1 g2 g3 g5 cd b3;replace ⟨t,bQ,cw,ap,bE,bA,a3,bX⟩:=H8 t bQ cw ap bE bA a3 bX;replace bi:=Hh bi;go_upto_region 11 with fail;rw [<- aI];have ca:=Hh aI;clear aI lx fl ck;go_wp2_with (at_builtin;refine Mo rfl _ _ rfl w.heap.size n3 _ rfl bQ.out bX.out ⟨W1.heap.size,0,none⟩ 1 rfl (i:Int) cw.out bi.out ap.out ?_;intro g7 aE w7 h7 al av;obtain ⟨k7,f7⟩:=a3 w7 al;replace ⟨h7,al,av⟩:=H3 h7 al av)
       have aZ:=ac.grow t.out g1.out g2.out al.out h7.out (fun k y=>by
        simp [Value.ownBlock] at y;subst y;rcases av.out with e | e
        .exact .inl e
        .exact .inr e)
       simp only at aZ;rw [<- bE.out] at aZ;replace aZ:=Hh aZ;go_roundw
       case rel=>exact ⟨j+1,_,by go_num,by omega,aZ⟩
       case measure=>simp [intOf];omega
      .have aB:Kp n i aK l (j+1)=st:=(by rw [o];unfold Pp;rw [Ac (fun c=>cy c.2)]);rw [<- aB] at hO;replace ⟨y,aY,o,aC,hT,aF,aG,aB⟩:=H8 y aY o aC hT aF aG aB;go_wp2;go_roundw
       case rel=>exact ⟨j+1,_,by go_num,by omega,hO⟩
       case measure=>simp [intOf];omega
     .have aB:Kp n i aK l (j+1)=st:=(by rw [o];unfold Pp;rw [Ac (fun c=>cr c.1)]);rw [<- aB] at hO;replace ⟨y,aY,o,aC,hT,aF,aG,aB⟩:=H8 y aY o aC hT aF aG aB;go_wp2;go_roundw
      case rel=>exact ⟨j+1,_,by go_num,by omega,hO⟩
      case measure=>simp [intOf];omega
    .have bs:¬ (j:Int)<m:=(by omega);have cO:j=m:=(by omega);subst cO;have aZ:Hid (ij w n n u (Jh after (i+1)) wr):=(by rw [z.out];exact hO);go_wp2;go_roundw
     case rel=>exact ⟨i+1,_,by go_num,by omega,aZ⟩
     case measure=>simp [intOf];omega
  .have cf:¬ (i:Int)<n:=(by omega);have aS:i=n:=(by omega);obtain ⟨st,o⟩:=Ex (Jh after n)
   have hT:Tok n (100000*n) st:=by
    have:=Tok.to (after:=after) (b:=100000) (fun l hl=>by
     obtain ⟨j,hj⟩:=Dg hl;obtain ⟨_,_,_,_,_,_,_,_,_,h6⟩:=h.cell j l hj
     exact h6) (i:=n) (by rw [aJ.out];exact Nat.le_refl _)
    rw [aJ.out] at this;rw [o];exact this
   have ac:Hid (ij w n n u st wr):=(by rw [o];exact aS▸hO);have ba:Ji after = !decide ((Gs st.2 ⟨st.1,Ie st.1 n,[]⟩ (2*n)).out.length<n):=(by unfold Ji Aih;rw [aJ.out,<- o]);obtain ⟨left,d⟩:=st;have bx:=ac.l1;have bM:=ac.l2;simp only at bx bM hT;clear hO bI;have cJ:Hid (qi w n n u (left,d) (.slice none 0 0) (Ie left 0) wr):=qi.start ac.out;replace ⟨o,hT,ba,aS,bx,bM,ac⟩:=H7 o hT ba aS bx bM ac;go_wp2_with fail;go_loopw [10,12,13,66] (fun fv _ _ jv wr=>∃ (j:Nat),jv=.int .i64 j/\j<=n/\Hid (qi w n n u (left,d) fv (Ie left j) wr)) (fun _ _ _ jv _=>n-(intOf jv).toNat)
   case atStart=>exact ⟨0,rfl,Aq _,cJ⟩
   case round=>
    obtain ⟨j,rfl,cp,hF⟩:=hrel;by_cases hd:j<n
    .have bs:(j:Int)<n:=(by omega);have co:(0:Int)<=(j:Int):=(by omega);obtain ⟨x,hx⟩:=Ge left j (by have:=bx.out;omega);have lx:=hF.or.left.cell hx;by_cases b5:x=0
     .subst b5;obtain ⟨fl,aD⟩:=Ex (Ie left j);have z:Ie left (j+1)=fl++[(j:Int)]:=(by rw [aD];show (if (left[j]?).getD 0=0 then _ else _)=_;rw [Gu hx,Ad rfl]);rw [<- aD] at hF;have bO:fl.length<=n:=(by have:=(lh.start left j).2;rw [<- aD] at this;omega);obtain ⟨so,m,c,e,hm⟩:=hF.free.len;subst e;have am:=hm.symm;have aA:m<=1000000000:=(by omega);have t:BW wr.heap.size wr (wr.alloc (.cells #[.int .i64 (j:Int)] 3 (0,0))):=Bn;have bW:=hF.free.mod (Mod.af (S:=fun _=>False) t) (fun _ _ c=>c);have cw:(wr.alloc (.cells #[.int .i64 (j:Int)] 3 (0,0))).cell? ⟨wr.heap.size,0,none⟩=some (.int .i64 (j:Int)):=Aa (Ah _ _) 0;have ap:w.heap.size<=(wr.alloc (.cells #[.int .i64 (j:Int)] 3 (0,0))).heap.size:=(by have:=hF.or.low.size;have:=t.size;omega);replace ⟨hx,aD,z,bO,hm,am,aA,t⟩:=H8 hx aD z bO hm am aA t;replace ⟨bW,cw,ap⟩:=H3 bW cw ap;go_wp2_with (at_builtin;refine Mo rfl _ _ rfl w.heap.size m _ rfl bW.out am.out ⟨wr.heap.size,0,none⟩ 1 rfl (j:Int) cw.out aA.out ap.out ?_;intro g7 aE w7 h7 al av;replace ⟨h7,al,av⟩:=H3 h7 al av)
      have aL:=hF.set t.out (Mod.grown al.out (S:=fun b=>(Value.slice so m c).ownBlock=some b) (fun k y=>y)) h7.out (fun k y=>by
       simp [Value.ownBlock] at y;subst y;rcases av.out with e | e
       .exact .inl e
       .exact .inr e)
      rw [<- z.out] at aL;replace aL:=Hh aL;go_roundw
      case rel=>exact ⟨j+1,by go_num,by omega,aL⟩
      case measure=>simp [intOf];omega
     .have z:Ie left (j+1)=Ie left j:=(by show (if (left[j]?).getD 0=0 then _ else _)=_;rw [Gu hx,Ac b5]);rw [<- z] at hF;replace ⟨hx,z⟩:=H2 hx z;go_wp2;go_roundw
      case rel=>exact ⟨j+1,by go_num,by omega,hF⟩
      case measure=>simp [intOf];omega
    .have bs:¬ (j:Int)<n:=(by omega);have bY:j=n:=(by omega);have b8:Hid (ig w n n u d u10 (.slice none 0 0) (Gs d ⟨left,Ie left n,[]⟩ 0) wr):=(by have:=bY▸hF;exact this.q (s:=⟨left,[],[]⟩));have bL:=lh.start left n;have b4:J4 (left,Ie left n)<=2*n:=(by unfold J4;have:left.countP (fun x=>decide (0<x))<=left.length:=U8;have:=bx.out;have:=bL.2;simp only;omega);obtain ⟨s0,bC⟩:=Ex ((⟨left,Ie left n,[]⟩:qk));have bU:Gt (-(100000000*(0:Int))) 100000000 left:=hT.left.mono (by omega) (by omega);rw [<- bC] at b8;have a0:s0.left=left/\s0.free=Ie left n/\s0.out=[]:=(by rw [bC];exact ⟨rfl,rfl,rfl⟩);have a2:Ji after = !decide ((Gs d s0 (2*n)).out.length<n):=(by rw [ba.out,bC]);clear ba hF;replace ⟨bL,b4,bC,bU,a0,a2,bY⟩:=H7 bL b4 bC bU a0 a2 bY;go_wp2_with fail;go_loopg [10,11,14,16,17,18,95] (2*n) (fun gk fv ov _ _ _ _ _ wr=>∃ (p:Nat),p+gk<=2*n/\Hid (ig w n n u d fv ov (Gs d s0 p) wr)/\Hid (lh n (Gs d s0 p).free)/\Hid (J4 ((Gs d s0 p).left,(Gs d s0 p).free)<=gk)/\Hid (Gt (-(100000000*(p:Int))) 100000000 (Gs d s0 p).left)/\Hid ((Gs d s0 p).out.length=p))
     case atStart=>
      refine ⟨0,by omega,b8,?_,?_,?_,?_⟩
      .show lh n s0.free;rw [a0.2.1];exact bL.1
      .show J4 (s0.left,s0.free)<=2*n;rw [a0.1,a0.2.1];exact b4.out
      .show Gt _ _ s0.left;rw [a0.1];exact bU.out
      .show s0.out.length=0;rw [a0.2.2];rfl
     case round=>
      obtain ⟨p,c7,hQ,aP,a6,a1,aU⟩:=hrel;obtain ⟨s,hs⟩:=Ex (Gs d s0 p);rw [<- hs] at hQ aP a6 a1 aU;obtain ⟨f,cT,an⟩:=s;simp only at aP a6 a1 aU
      cases cT with
      | nil=>
       have aH:Ji after = !decide (an.length<n):=(by rw [a2.out,Aik (s:=s0) (p:=p) (by rw [<- hs]) (2*n) (by omega),<- hs]);obtain ⟨so,c,e,_⟩:=hQ.free.form;subst e;obtain ⟨a7,m2,c2,e2,am⟩:=hQ.out.out.len;subst e2;have be:=aU.out;have aT:m2=an.length:=am;simp only [P1];replace ⟨hs,aP,a6,a1,aU,be⟩:=H6 hs aP a6 a1 aU be;by_cases cA:m2<n
       .have cB:(m2:Int)<n:=(by omega);have ad:Ji after=false:=(by rw [aH];simp;omega);replace ⟨am,aT,aH,ad⟩:=H4 am aT aH ad;go_wp2;refine Ak (v:=.tuple #[.slice none 0 0,.bool false]) (by simp [results,results210,go_sem]) rfl ⟨⟨_,by rw [ad.out]⟩,hQ.or.low⟩
       .have cB:¬ (m2:Int)<n:=(by omega);have ad:Ji after=true:=(by rw [aH];simp;omega);replace ⟨am,aT,aH,ad⟩:=H4 am aT aH ad;go_wp2;refine Ak (v:=.tuple #[.slice a7 m2 c2,.bool true]) (by simp [results,results210,go_sem]) rfl ⟨⟨_,by rw [ad.out]⟩,hQ.or.low⟩
      | cons x r=>
       have aW:=aP.tq x (Dl ..);obtain ⟨xx,rfl⟩:∃ xx:Nat,x=(xx:Int):=⟨x.toNat,by omega⟩;have cX:(xx:Int)<n:=(by omega);have b5:(0:Int)<=(xx:Int):=(by omega);obtain ⟨g,aX,cap,e,b6,bZ,ci,cm,bV⟩:=hQ.free.pos (by simp);subst e;obtain ⟨M,hM⟩:=Ex (((xx:Int) :: r).length);rw [<- hM] at hQ bZ;have b7:M=r.length+1:=(by rw [hM];rfl);rw [<- hM];have cZ:0<M:=(by omega);have c1:(1:Int)<=M:=(by omega);have cf:(1:Int)<=cap:=(by omega);have c0:wr.cell? ⟨g,aX,none⟩=some (.int .i64 (xx:Int)):=bV 0 _ rfl;have bF:r.length<=2*n/\J4 (f,r)+1<=gk:=(by have:=a6.out;unfold J4 at this ⊢;simp only [Il] at this ⊢;omega);obtain ⟨a7,m2,c2,e2,am⟩:=hQ.out.out.len;subst e2;have be:=aU.out;have aT:m2=an.length:=am;have aA:m2<=1000000000:=(by omega);obtain ⟨cI,bn,cH,bl,q1,q2,q3,q4,q5⟩:=hQ.or.back.get (i:=xx) (by have c6:=bM.out;show xx<d.length;omega);have bT:=(hT.back bl (Ai q2));have bf:Hid (ig w n n u d (.slice (some ⟨g,if cap=1 then aX else aX+1,none⟩) r.length (cap-1)) (.slice a7 m2 c2) ⟨f,r,an⟩ wr):=hQ.tail rfl;obtain ⟨bN,bk⟩:=bT;have aN:bn<=100000000:=(by omega);have bD:Al (wr.alloc (.cells #[.int .i64 (xx:Int)] 3 (0,0))) w.heap.size (.slice a7 m2 c2) an:=bf.out.out.mod (Mod.af (S:=fun _=>False) Bn) (fun _ _ c=>c);have cw:(wr.alloc (.cells #[.int .i64 (xx:Int)] 3 (0,0))).cell? ⟨wr.heap.size,0,none⟩=some (.int .i64 (xx:Int)):=Aa (Ah _ _) 0;have t:BW wr.heap.size wr (wr.alloc (.cells #[.int .i64 (xx:Int)] 3 (0,0))):=Bn;have ap:w.heap.size<=(wr.alloc (.cells #[.int .i64 (xx:Int)] 3 (0,0))).heap.size:=by have:=hQ.or.low.size;have:=t.size;omega
       have a3:∀ w7,(wr.alloc (.cells #[.int .i64 (xx:Int)] 3 (0,0))).grownBy w7 (Value.slice a7 m2 c2).ownBlock->w7.cell? ⟨w.heap.size+1,xx,none⟩=some (.slice cI bn cH):=fun w7 hg=>by
        obtain ⟨_,cD,cc,ch⟩:=hQ.or.back.ar;have cQ:=Bo hQ.out.out.row ch (by decide);have hb:=hg.block (w.heap.size+1) (by have:=t.size;omega) (fun e=>cQ e.symm);exact (Bp (a:=⟨w.heap.size+1,xx,none⟩) (hb.trans (t.block (w.heap.size+1) cD))).trans q4
       obtain ⟨bP,bw⟩:=Ex (Value.slice (if cap=1 then some ⟨g,aX,none⟩ else some ⟨g,aX+1,none⟩) (M-1) (cap-1))
       have bJ:Hid (ig w n n u d bP (.slice a7 m2 c2) ⟨f,r,an⟩ wr):=by
        have e:bP=.slice (some ⟨g,if cap=1 then aX else aX+1,none⟩) r.length (cap-1):=by
         rw [bw,show M-1=r.length by omega]
         split<;>rfl
        rw [e];exact bf.out
       replace ⟨hs,aP,a6,a1,aU,aW,b6,bZ⟩:=H8 hs aP a6 a1 aU aW b6 bZ;replace ⟨ci,cm,bV,hM,b7,bF,be,am⟩:=H8 ci cm bV hM b7 bF be am;replace ⟨aT,aA,q1,q2,q3,q4,q5,bN⟩:=H8 aT aA q1 q2 q3 q4 q5 bN;replace ⟨bk,aN,bf,bD,cw,t,ap,a3⟩:=H8 bk aN bf bD cw t ap a3;replace bJ:=Hh bJ;go_upto_region 24 with fail;rw [<- bw];clear bw c0 hQ bf;go_wp2_with (at_builtin;refine Mo rfl _ _ rfl w.heap.size m2 _ rfl bD.out aT.symm ⟨wr.heap.size,0,none⟩ 1 rfl (xx:Int) cw.out aA.out ap.out ?_;intro g7 aE w7 h7 al av;have k7:=a3 w7 al;replace ⟨h7,al,av⟩:=H3 h7 al av)
       have b9:=bJ.tz t.out (Mod.grown al.out (S:=fun b=>(Value.slice a7 m2 c2).ownBlock=some b) (fun k y=>y)) h7.out (fun k y=>by
        simp [Value.ownBlock] at y;subst y;rcases av.out with e | e
        .exact .inl e
        .exact .inr e)
       have cK:Hid (ig w n n u d bP (.slice (some ⟨g7,0,none⟩) (m2+1) aE) ⟨(Dz (f,r) bl 0).1,(Dz (f,r) bl 0).2,an++[(xx:Int)]⟩ w7):=b9;have cj:Hid (lh n (Dz (f,r) bl 0).2):=Hh aP.tail;have ce:Hid (Gt (-(100000000*(p:Int))-((0:Nat):Int)) 100000000 (Dz (f,r) bl 0).1):=Hh (show Gt _ _ f from a1.mono (by omega) (by omega));have cE:Hid (J4 (Dz (f,r) bl 0)+1<=gk):=Hh bF.2;have a5:Ss d ⟨f,(xx:Int) :: r,an⟩=⟨(Dz (f,r) bl bn).1,(Dz (f,r) bl bn).2,an++[(xx:Int)]⟩:=(by unfold Ss;simp only [J8,Gu q2.out];rw [<- q3.out]);clear k7 bJ b9;replace a5:=Hh a5;go_loopw [10,16,17,18,95] (fun fv _ _ _ jv wr=>∃ (j:Nat),jv=.int .i64 j/\j<=bn/\Hid (ig w n n u d fv (.slice (some ⟨g7,0,none⟩) (m2+1) aE) ⟨(Dz (f,r) bl j).1,(Dz (f,r) bl j).2,an++[(xx:Int)]⟩ wr)/\Hid (lh n (Dz (f,r) bl j).2)/\Hid (Gt (-(100000000*(p:Int))-(j:Int)) 100000000 (Dz (f,r) bl j).1)/\Hid (J4 (Dz (f,r) bl j)+1<=gk)) (fun _ _ _ _ jv _=>bn-(intOf jv).toNat)
       case atStart=>exact ⟨0,rfl,Aq _,cK,cj,ce,cE⟩
       case round=>
        obtain ⟨j,rfl,cp,hQ,aQ,a8,aV⟩:=hrel;by_cases hd:j<bn
        .have bs:(j:Int)<bn:=(by omega);have co:(0:Int)<=(j:Int):=(by omega);have cL:=aN.out;have ai:=hQ.or.back.each xx _ bl q1.out q2.out;obtain ⟨bg,cU,e⟩:=Joins.ownsRow_form ai.row (by have:=q3.out;omega);injection e with e1 e2 e3;subst e1;clear e2 e3;obtain ⟨k,y⟩:=Ge bl j (by have:=q3.out;omega);have cs:=bk.at y;obtain ⟨kk,rfl⟩:∃ kk:Nat,k=(kk:Int):=⟨k.toNat,by omega⟩;have ct:kk<n:=(by omega);have cx:(kk:Int)<n:=(by omega);have cv:(0:Int)<=(kk:Int):=(by omega);have ck:=ai.cell y;obtain ⟨st,o⟩:=Ex (Dz (f,r) bl j);have z:Dz (f,r) bl (j+1)=Qy st (kk:Int):=(by rw [o];show Qy _ ((bl[j]?).getD 0)=_;rw [Gu y]);rw [<- o] at hQ aQ a8 aV;obtain ⟨x,hx⟩:=Ge st.1 kk (by have h9:st.1.length=n:=hQ.or.l1;omega);have aW:=a8.at hx;have lx:=hQ.or.left.cell hx;have fl:=hQ.or.td kk;have cR:IntKind.i64.wrap (x-1)=x-1:=Id (by have:=aN.out;omega) (by omega);have hrel:=Auk (st:=st) (k:=(kk:Int)) (x:=x) (by simpa using hx);have bG:=Auj (st:=st) (k:=(kk:Int)) (x:=x) (by simpa using hx);rw [<- z] at hrel bG;obtain ⟨W1,aI⟩:=Ex (wr.setCell ⟨w.heap.size,kk,none⟩ (.int .i64 (x-1)));have aM:=hQ.ji kk (x-1);rw [<- aI] at aM;have c8:W1.cell? ⟨w.heap.size,kk,none⟩=some (.int .i64 (x-1)):=aM.or.left.cell (by show (st.1.set kk (x-1))[kk]?=_;rw [Do];have:=(Ao.1 hx).1;simp [this]);have a9:Gt (-(100000000*(p:Int))-((j+1:Nat):Int)) 100000000 (Dz (f,r) bl (j+1)).1:=(by rw [hrel];exact a8.set (by omega) (by omega) (by omega) (by omega));have bd:J4 (Dz (f,r) bl (j+1))+1<=gk:=(by have:=aV.out;omega);replace ⟨ai,y,cs,o,z,hx,aW,hrel⟩:=H8 ai y cs o z hx aW hrel;replace ⟨bG,aM,a9,bd,hQ⟩:=H5 bG aM a9 bd hQ;go_upto_region 29 with fail;rw [<- aI];have ca:=Hh aI;clear aI ck lx fl;by_cases cS:x=1
         .subst cS;obtain ⟨ei,aO⟩:=Ex (st.2.countP (·<(kk:Int)));have aD:st.2.length<=1000000:=(by have:=aV.out;unfold J4 at this;omega);have bB:C7 W1 w.heap.size u10 st.2:=aM.free;have bK:=Au9 bB aQ.az (kk:Int) aD;rw [<- aO] at bK;have bo:∀ q,BW W1.heap.size W1 ((W1.drewN q).alloc (.cells #[.int .i64 (kk:Int)] 3 (0,0))):=fun q=>(A9 _ W1 q).alloc Ln _
          have aS:∀ q,CS prog 265 #[u10,.int .i64 (ei:Int),.slice (some ⟨W1.heap.size,0,none⟩) 1 1] ((W1.drewN q).alloc (.cells #[.int .i64 (kk:Int)] 3 (0,0))) (Xr ((W1.drewN q).alloc (.cells #[.int .i64 (kk:Int)] 3 (0,0))) w.heap.size u10 (gh (kk:Int) st.2)):=fun q=>by
           have h9:=bB.mod (Mod.af (S:=fun _=>False) (bo q)) (fun _ _ c=>c);have:=At9 h9 (kk:Int) ei (by rw [aO];exact U8) aD W1.heap.size (Ah _ _) (fun e=>by have:=(bB.lt _ e).2;omega) (by have:=aM.or.low.size;have:=(bo q).size;omega);unfold gh;rw [<- aO];exact this
          unfold Xr at aS;replace ⟨aO,aD,bB,bK,aS,bo⟩:=H6 aO aD bB bK aS bo
          go_wp2_with (first
           | (go_at_call 264;(with_reducible refine bK.out.mono ?_);rintro e w8 ⟨⟨bb,rfl⟩,q,rfl⟩)
           | (go_at_call 265;(with_reducible refine (aS.out _).mono ?_);rintro e w9 ⟨v9,rfl,b0,aA,bS⟩;replace ⟨b0,aA,bS⟩:=H3 b0 aA bS))
          have hF:=aM.ry (bo q) aA.out b0.out (fun k y=>by
           rcases bS.out with e | e
           .exact .inl (e▸y)
           .rw [e] at y;injection y with y
            exact .inr y.symm)
          have aL:Hid (ig w n n u d v9 (.slice (some ⟨g7,0,none⟩) (m2+1) aE) ⟨(Dz (f,r) bl (j+1)).1,(Dz (f,r) bl (j+1)).2,an++[(xx:Int)]⟩ w9):=(by rw [hrel.out,Ad (by omega)];exact hF);have bv:Hid (lh n (Dz (f,r) bl (j+1)).2):=(by rw [hrel.out,Ad (by omega)];exact aQ.ins cv cx);clear hF;go_roundw
          case rel=>exact ⟨j+1,by go_num,by omega,aL,bv,a9,bd⟩
          case measure=>simp [intOf];omega
         .have cF:¬ x-1=0:=(by omega);have aL:Hid (ig w n n u d u10 (.slice (some ⟨g7,0,none⟩) (m2+1) aE) ⟨(Dz (f,r) bl (j+1)).1,(Dz (f,r) bl (j+1)).2,an++[(xx:Int)]⟩ W1):=(by rw [hrel.out,Ac cF];exact aM.out);have bv:Hid (lh n (Dz (f,r) bl (j+1)).2):=(by rw [hrel.out,Ac cF];exact aQ.out);go_wp2_with fail;go_roundw
          case rel=>exact ⟨j+1,by go_num,by omega,aL,bv,a9,bd⟩
          case measure=>simp [intOf];omega
        .have bs:¬ (j:Int)<bn:=(by omega);have cN:j=bn:=(by omega);have a4:Gs d s0 (p+1)=⟨(Dz (f,r) bl bn).1,(Dz (f,r) bl bn).2,an++[(xx:Int)]⟩:=(by show Ss d (Gs d s0 p)=_;rw [<- hs.out];exact a5.out);have c4:=aV.out;have cL:=aN.out;replace a4:=Hh a4;go_wp2;go_roundg (gk-1)
         case measure=>omega
         case rel=>
          have e:=cN;refine ⟨p+1,by omega,?_,?_,?_,?_,?_⟩
          .rw [a4.out,<- e];exact hQ
          .rw [a4.out,<- e];exact aQ
          .rw [a4.out,<- e];exact Hh (by have:=aV.out;show J4 (Dz (f,r) bl j)<=gk-1;omega)
          .rw [a4.out,<- e];exact Hh (a8.mono (by omega) (by omega))
          .rw [a4.out];exact Hh (by have:=be.out;simp;omega)
def Avb (f:Option Addr) (n c:Nat) (after:List (List Int)) (w:WD) (h:Q0 w f n after) :
  CS prog 156 #[.slice f n c] w fun e w'=>e=.returned (.bool (!Ji after))/\BW w.heap.size w w':=by
 have d:=Ava f n c after w h;obtain ⟨b,g⟩:=Ex (Ji after);rw [<- g] at d ⊢;replace ⟨h,d,g⟩:=H3 h d g;go_enter func156,ntmps156;go_wp2_with (go_at_call 210;(with_reducible refine d.out.mono ?_);rintro e w1 ⟨⟨v,rfl⟩,a⟩;replace a:=Hh a)
 all_goals
  go_ret;exact ⟨by first | rfl | simp_all,a.out⟩
def Jj (f:Int) (t:Nat):List Int:=(List.range t).map fun (j:Nat)=>f+(j:Int)
def Avg (f:Int) (t:Nat):Jj f (t+1)=Jj f t++[f+(t:Int)]:=by simp [Jj,Vi]
def Dw (next:Int) (sizes:List Int):Nat->Int
 | 0=>next
 | k+1=>Dw next sizes k+(sizes[k]?).getD 0
def Mp (next:Int) (sizes:List Int) (r:List Int×List Int) (n:Int):List Int×List Int:=
 if 0<n then (r.1,r.2++[n]) else (r.1++[-1-n],r.2++Jj (Dw next sizes (-1-n).toNat) ((sizes[(-1-n).toNat]?).getD 0).toNat)
def Cy (next:Int) (sizes l:List Int):Nat->List Int×List Int
 | 0=>([],[])
 | j+1=>Mp next sizes (Cy next sizes l j) ((l[j]?).getD 0)
def Kq (next:Int) (sizes l:List Int):List Int:=(Cy next sizes l l.length).1
def J6 (next:Int) (sizes l:List Int):List Int:=Lib.compact (J5 (Cy next sizes l l.length).2)
def F9 (f:List Int->List Int) (after:List (List Int)):Nat->List (List Int)
 | 0=>List.replicate after.length []
 | i+1=>(F9 f after i).set i (f ((after[i]?).getD []))
def Us (f:List Int->List Int) (after:List (List Int)):∀ i,(F9 f after i).length=after.length
 | 0=>by simp [F9]
 | i+1=>by simp [F9,Us f after i]
def Xv (f:List Int->List Int) (after:List (List Int)):∀ (i k:Nat),k<after.length->(F9 f after i)[k]?=some (if k<i then f ((after[k]?).getD []) else [])
 | 0,k,hk=>by simp [F9,hk]
 | i+1,k,hk=>by
  have c:=Xv f after i k hk;have b:=Us f after i;show ((F9 f after i).set i _)[k]?=_;rw [Do];by_cases h:i=k
  .subst h;simp [b,hk]
  .rw [Ac h,c];by_cases a:k<i
   .rw [Ad a,Ad (by omega)]
   .rw [Ac a,Ac (by omega)]
def Ait (f:List Int->List Int) (after:List (List Int)):F9 f after after.length=after.map f:=by
 apply Ea;intro k;by_cases a:k<after.length
 .rw [Xv f after _ k a,Ad a];simp [a]
 .rw [Ot (by rw [Us];omega),Ot (by simp;omega)]
def Ga (next:Int) (sizes:List Int) (after:List (List Int)):List (List Int)×Int:=
 if next<1\/1099511627776<next\/8<sizes.length\/after.length≠sizes.length then ([],1)
 else if (sizes.any fun n=>decide (n<1) || decide (20<n))=true then ([],1)
 else if (after.any fun l=>l.any (F5 next sizes.length))=true then ([],90)
 else if Ji (after.map (Kq next sizes))=false then ([],91)
 else (after.map (J6 next sizes),0)
def Xw (b:Int) (a l:List Int) (c:∀ n,n∈a->n<=20):∀ j,(Cy b a l j).1.length<=j/\(Cy b a l j).2.length<=20*j
 | 0=>by simp [Cy]
 | j+1=>by
  obtain ⟨h1,d⟩:=Xw b a l c j;show (Mp b a (Cy b a l j) _).1.length<=_/\(Mp b a (Cy b a l j) _).2.length<=_;unfold Mp;split
  .simp only [Cn,List.length_singleton];omega
  .have:∀ k:Nat,((a[k]?).getD 0).toNat<=20:=fun k=>by
    cases h:a[k]? with
    | none=>simp
    | some n=>have:=c n (Ai h);simp;omega
   simp only [Cn,List.length_singleton,Jj,At,Y6];have:=this (-1-(l[j]?).getD 0).toNat;omega
def Aiu (b:Int) (a:List Int) (c:∀ n,n∈a->1<=n/\n<=20):∀ k:Nat,b<=Dw b a k/\Dw b a k<=b+20*(k:Int)
 | 0=>by simp [Dw]
 | k+1=>by
  obtain ⟨h1,d⟩:=Aiu b a c k;show b<=Dw b a k+(a[k]?).getD 0/\_
  have:0<=(a[k]?).getD 0/\(a[k]?).getD 0<=20:=by
   cases h:a[k]? with
   | none=>simp
   | some n=>have:=c n (Ai h);simp;omega
  constructor
  .omega
  .show Dw b a k+(a[k]?).getD 0<=_;push_cast;omega
structure ic (B g1 g2 m:Nat) (fl:List Int) (s1 s2:List VL) (l1 l2:List (List Int)) (w:WD):Prop where
 a:Cw w B g1 m s1 l1
 b:Cw w B g2 m s2 l2
 ng:g1≠g2
 b1:B<g1
 b2:B<g2
 na:∀ (i:Nat) (sv:VL),s1[i]?=some sv->sv.ownBlock≠some B/\sv.ownBlock≠some g2
 nb:∀ (i:Nat) (sv:VL),s2[i]?=some sv->sv.ownBlock≠some B/\sv.ownBlock≠some g1
 two:∀ (i j:Nat) (u v:VL),s1[i]?=some u->s2[j]?=some v->∀ k,u.ownBlock=some k->v.ownBlock≠some k
 first:Al w B (.slice (some ⟨B,0,none⟩) (m+1) (m+1)) fl
variable {B g1 g2 m:Nat} {fl:List Int} {s1 s2:List VL} {l1 l2:List (List Int)}
def ic.symm {w:WD} (h:ic B g1 g2 m fl s1 s2 l1 l2 w):ic B g2 g1 m fl s2 s1 l2 l1 w:=
 ⟨h.b,h.a,fun e=>h.ng e.symm,h.b2,h.b1,h.nb,h.na,fun i j u v d f k c e=>h.two j i v u f d k e c,h.first⟩
def ic.drop {w w1:WD} (h:ic B g1 g2 m fl s1 s2 l1 l2 w) (d:BW w.heap.size w w1):ic B g1 g2 m fl s1 s2 l1 l2 w1:=
 ⟨h.a.low d,h.b.low d,h.ng,h.b1,h.b2,h.na,h.nb,h.two,h.first.mod (Mod.af (S:=fun _=>False) d) (fun _ _ c=>c)⟩
def ic.put {w w1 p:WD} (h:ic B g1 g2 m fl s1 s2 l1 l2 w) (x:BW w.heap.size w w1) {i:Nat} {g o:VL} {l l':List Int} (n:s1[i]?=some g) (hl:l1[i]?=some l) (y:w1.grownBy p g.ownBlock) (ho:Al p B o l')
  (s:∀ k,o.ownBlock=some k->g.ownBlock=some k\/k=w1.heap.size):ic B g1 g2 m fl (s1.set i o) s2 (l1.set i l') l2 (p.setCell ⟨g1,i,none⟩ o):=by
 have h1:=h.drop x;have z:=Mod.grown y (fun k f=>f);have r:Mod (fun k=>k=g1) p (p.setCell ⟨g1,i,none⟩ o):=Mod.setCell p g1 i o rfl;have al:=x.size;have ad:=h.b.ar.2.1;have ac:=h.a.ar.2.1;have hB:=h.b1;refine ⟨h1.a.put n hl y ho s,(h1.b.off z (h.na i g n).2 (fun j u d k f e=>h.two i j g u n d k e f)).off r (fun e=>h.ng e.symm) (fun j u d k f e=>(h.nb j u d).2 (by rw [f,e])),h.ng,h.b1,h.b2,?_,h.nb,?_,?_⟩
 .intro j u d;rw [Do] at d;split at d
  .split at d
   .injection d with d;subst d;refine ⟨fun e=>?_,fun e=>?_⟩
    .rcases s _ e with c | c
     .exact (h.na i g n).1 c
     .omega
    .rcases s _ e with c | c
     .exact (h.na i g n).2 c
     .omega
   .cases d
  .exact h.na j u d
 .intro j k u v d t q hq e;rw [Do] at d;split at d
  .split at d
   .injection d with d;subst d;rcases s _ hq with c | c
    .exact h.two i k g v n t q c e
    .have f:k<l2.length:=(by rw [<- h.b.len];exact (Ao.1 t).1);have:=((h.b.each k v _ t (A4 f)).lt q e).2;omega
   .cases d
  .exact h.two j k u v d t q hq e
 .exact (h1.first.mod z (fun k f e=>by simp [Value.ownBlock] at f;subst f;exact (h.na i g n).1 e)).mod r (fun k f e=>by simp [Value.ownBlock] at f;omega)
def ic.below {c w w1 j:WD} (h:ic c.heap.size g1 g2 m fl s1 s2 l1 l2 w) (b:BW c.heap.size c w) (l:BW w.heap.size w w1) {i:Nat} {f p:VL} (g:s1[i]?=some f) (n:w1.grownBy j f.ownBlock):BW c.heap.size c (j.setCell ⟨g1,i,none⟩ p):=by
 have e:=fun k o=>by
  have d:i<l1.length:=by rw [<- h.a.len];exact (Ao.1 g).1
  exact ((h.a.each i f _ g (A4 d)).lt k o).1
 have h1:=b.trans (l.mono b.size);have:=h.b1;exact B9 (h1.grown n h1.size e) (by omega)
def Al.uy {w:WD} {B g n c:Nat} {l:List Int} (h:Al w B (.slice (some ⟨g,0,none⟩) n c) l) (i:Nat) (y:Int):Al (w.setCell ⟨g,i,none⟩ (.int .i64 y)) B (.slice (some ⟨g,0,none⟩) n c) (l.set i y):=by
 have a:=h.num;subst a;refine ⟨?_⟩;have:=(h.row.stored i (.int .i64 y)).1;rw [Dm];have e:Bu (l.set i y)=(Bu l).set i (.int .i64 y):=by simp [Bu,Mv]
 rw [e];exact this
def ic.app {w:WD} (h:ic B g1 g2 m fl s1 s2 l1 l2 w) {i:Nat} (z:i<l1.length) (x:Int):∃ so n c l,s1[i]?=some (.slice so n c)/\l1[i]?=some l/\l.length=n/\w.cell? ⟨g1,i,none⟩=some (.slice so n c)/\Al w B (.slice so n c) l /\
  BW w.heap.size w (w.alloc (.cells #[.int .i64 x] 3 (0,0)))/\Al (w.alloc (.cells #[.int .i64 x] 3 (0,0))) B (.slice so n c) l/\(w.alloc (.cells #[.int .i64 x] 3 (0,0))).cell? ⟨w.heap.size,0,none⟩=some (.int .i64 x)/\B<=(w.alloc (.cells #[.int .i64 x] 3 (0,0))).heap.size /\
  (∀ f,(w.alloc (.cells #[.int .i64 x] 3 (0,0))).grownBy f (Value.slice so n c).ownBlock->f.cell? ⟨g1,i,none⟩=some (.slice so n c)/\f.frozen? ⟨g1,i,none⟩=false) /\
  (∀ f,Mod (fun b=>(Value.slice so n c).ownBlock=some b) w f->f.cell? ⟨g1,i,none⟩=some (.slice so n c)/\f.frozen? ⟨g1,i,none⟩=false):=by
 obtain ⟨q,n3,u,l3,r,s,v,p,t⟩:=h.a.get z;have o:=h.a.ne r s;have k:=h.a.ar.2.1;have hB:=h.b1;have d:BW w.heap.size w (w.alloc (.cells #[.int .i64 x] 3 (0,0))):=Bn;have h2:=d.size;refine ⟨q,n3,u,l3,r,s,v.symm,p,t,d,t.mod (Mod.af (S:=fun _=>False) d) (fun _ _ c=>c),Aa (Ah _ _) 0,by omega,fun f y=>?_,fun f hm=>?_⟩
 .have g:=y.block g1 (by omega) (fun e=>o e.symm);have j:=(d.block g1 k);exact ⟨(Bp (a:=⟨g1,i,none⟩) (g.trans j)).trans p,(Oq (a:=⟨g1,i,none⟩) (g.trans j)).trans (h.a.row.frozenAt i)⟩
 .have g:=hm.block g1 k (fun e=>o e);exact ⟨(Bp (a:=⟨g1,i,none⟩) g).trans p,(Oq (a:=⟨g1,i,none⟩) g).trans (h.a.row.frozenAt i)⟩
def Cw.rows {w:WD} {B g cap:Nat} {k:List VL} {a:List (List Int)} (h:Cw w B g cap k a) (h1:a.length<=1000) (t:∀ l,l∈a->l.length<=100000):Q0 w (some ⟨g,0,none⟩) a.length a:=by
 refine ⟨rfl,h1,fun i l f=>?_⟩;have u:=(Ao.1 f).1;obtain ⟨so,n,c,l',y,b,q,r,o⟩:=h.get u;rw [f] at b;injection b with b;subst b;subst q;obtain ⟨v,x,d,s⟩:=Aed o;injection d with d _ e8;subst d;subst e8;refine ⟨g,0,so,c,rfl,h.ar.2.1,by rw [Da];exact r,s,?_,t l (Ai f)⟩;rcases o.row.2 with ⟨e,h0⟩ | ⟨z,m,p,e,_,_,j,_⟩
 .have:l.length=0:=h0;omega
 .injection e with _ _ e;subst e;exact j
def Xx {α:Type} {l:List α} {i:Nat} {x:α} (h:l[i]?=some x):l.set i x=l:=by
 apply Ea;intro k;rw [Do];by_cases e:i=k
 .subst e;rw [Ad rfl,Ad (Ao.1 h).1,h]
 .rw [Ac e]
def ic.start {w:WD} {B n:Nat} {fl:List Int} (m:B<w.heap.size) (s:n<=1000) (o:Al w B (.slice (some ⟨B,0,none⟩) (n+1) (n+1)) fl):ic B w.heap.size (w.heap.size+1) n fl (List.replicate n (.slice none 0 0)) (List.replicate n (.slice none 0 0)) (List.replicate n []) (List.replicate n []) ((w.alloc (.cells (Array.replicate n (Value.slice none 0 0)) 31 (0,0))).alloc (.cells (Array.replicate n (Value.slice none 0 0)) 31 (0,0))):=by
 have h1:=Cw.made w B n (by omega) (by omega);have d:=Cw.made (w.alloc (.cells (List.replicate n (Value.slice none 0 0)).toArray 31 (0,0))) B n (by simp;omega) (by omega);have f:BW w.heap.size w (w.alloc (.cells (List.replicate n (Value.slice none 0 0)).toArray 31 (0,0))):=Bn;have b:BW (w.alloc (.cells (List.replicate n (Value.slice none 0 0)).toArray 31 (0,0))).heap.size (w.alloc (.cells (List.replicate n (Value.slice none 0 0)).toArray 31 (0,0))) ((w.alloc (.cells (List.replicate n (Value.slice none 0 0)).toArray 31 (0,0))).alloc (.cells (List.replicate n (Value.slice none 0 0)).toArray 31 (0,0))):=Bn;have h:=h1.low b;have l:=(o.mod (Mod.af (S:=fun _=>False) f) (fun _ _ c=>c)).mod (Mod.af (S:=fun _=>False) b) (fun _ _ c=>c);simp only [Yp] at d h l;have e:(w.alloc (.cells (Array.replicate n (Value.slice none 0 0)) 31 (0,0))).heap.size=w.heap.size+1:=by simp
 rw [e] at d;refine ⟨h,d,by omega,m,by omega,fun i r g=>?_,fun i r g=>?_,fun i j u v q t k p=>?_,l⟩
 .have a:=Q8 (Ai g);subst a;simp [Value.ownBlock]
 .have a:=Q8 (Ai g);subst a;simp [Value.ownBlock]
 .have a:=Q8 (Ai q);subst a;simp [Value.ownBlock] at p
end
section
open Go.RowKit Go.Maps Go.Lib
def Gx (r:List (List Int)×Int) (w:WD) (e:Ending) (w':WD):Prop:=
 ∃ v,e=.returned (.tuple #[v,.int .i64 r.2])/\(r.2≠0->v=.slice none 0 0)/\(r.2=0->∃ g s2,v=.slice (some ⟨g,0,none⟩) r.1.length r.1.length/\Cw w' w.heap.size g r.1.length s2 r.1)/\BW w.heap.size w w'
def Gx.bad {r:List (List Int)×Int} {k:Int} {w w':WD} (h:r=([],k)) (b:k≠0) (a:BW w.heap.size w w'):Gx r w (.returned (.tuple #[.slice none 0 0,.int .i64 k])) w':=by
 subst h;exact ⟨_,rfl,fun _=>rfl,fun e=>absurd e b,a⟩
def Acc {l:List Int} {p:Int->Bool} {i:Nat} {x:Int} (b:l[i]?=some x) (a:p x=true):l.any p=true:=Kz.2 ⟨x,Ai b,a⟩
def Axy (o:Int) (so:Option Addr) (m sc:Nat) (d:List Int) (ao:Option Addr) (n c:Nat) (after:List (List Int)) (w:WD) (hs:Ar w so m d) (h:Q0 w ao n after) (aF:∀ l,l∈after->l.length<=1000) :
  CS prog 99 #[.int .i64 o,.slice so m sc,.slice ao n c] w (Gx (Ga o d after) w):=by
 have aA:=hs.len;have s:=h.len;have av:BW w.heap.size w w:=Below.refl _ _;by_cases c0:o<1\/1099511627776<o\/8<d.length\/after.length≠d.length
 .have hr:Ga o d after=([],1):=by unfold Ga;rw [Ad c0]
  rw [aA,s] at c0;by_cases c1:o<1
  .clear c0;replace ⟨hs,h,aF,aA,s,hr,av⟩:=H7 hs h aF aA s hr av;go_enter Ti,Tg;go_wp2_with fail;exact Ak (v:=.tuple #[.slice none 0 0,.int .i64 1]) (by simp [results,results99,go_sem]) rfl (Gx.bad hr.out (by decide) av.out)
  .by_cases c2:o > 1099511627776
   .clear c0;replace ⟨hs,h,aF,aA,s,hr,av⟩:=H7 hs h aF aA s hr av;go_enter Ti,Tg;go_wp2_with fail;exact Ak (v:=.tuple #[.slice none 0 0,.int .i64 1]) (by simp [results,results99,go_sem]) rfl (Gx.bad hr.out (by decide) av.out)
   .by_cases c3:(m:Int) > 8
    .clear c0;replace ⟨hs,h,aF,aA,s,hr,av⟩:=H7 hs h aF aA s hr av;go_enter Ti,Tg;go_wp2_with fail;exact Ak (v:=.tuple #[.slice none 0 0,.int .i64 1]) (by simp [results,results99,go_sem]) rfl (Gx.bad hr.out (by decide) av.out)
    .have c4:((n:Int) != (m:Int))=true:=(by rw [Fp];omega);clear c0;replace ⟨hs,h,aF,aA,s,hr,av⟩:=H7 hs h aF aA s hr av;go_enter Ti,Tg;go_wp2_with fail;exact Ak (v:=.tuple #[.slice none 0 0,.int .i64 1]) (by simp [results,results99,go_sem]) rfl (Gx.bad hr.out (by decide) av.out)
 have a6:Ga o d after=if (d.any fun n=>decide (n<1) || decide (20<n))=true then ([],1)
   else if (after.any fun l=>l.any (F5 o d.length))=true then ([],90)
   else if Ji (after.map (Kq o d))=false then ([],91)
   else (after.map (J6 o d),0):=by
  unfold Ga;rw [Ac c0]
 obtain ⟨r,hr⟩:=Ex (Ga o d after);rw [<- hr];rw [<- hr] at a6;have c1:¬ o<1:=fun e=>c0 (.inl e);have c2:¬ o > 1099511627776:=fun e=>c0 (.inr (.inl e));have c3:¬ (m:Int) > 8:=fun e=>c0 (.inr (.inr (.inl (by omega))))
 have cr:n=m:=by
  by_cases e:n=m
  .exact e
  .exact absurd (.inr (.inr (.inr (by omega)))) c0
 subst cr;have c4:((n:Int) != (n:Int))=false:=by simp
 clear c0;have cC:∀ w:WD,(Instr.makeSlice 31 (.int .i64 ((n:Int)+1)) (.int .i64 ((n:Int)+1))).run prog w=.ok (.slice (some ⟨w.heap.size,0,none⟩) (n+1) (n+1)) (w.alloc (.cells (List.replicate (n+1) (Value.int .i64 0)).toArray 3 (0,0))):=by have:=Air (n+1) (by omega);simpa using this
 have cD:=Ais n (by omega);obtain ⟨W,hW⟩:=Ex (w.alloc (.cells (Array.replicate (n+1) (Value.int .i64 0)) 3 (0,0)));have bc:Al W w.heap.size (.slice (some ⟨w.heap.size,0,none⟩) (n+1) (n+1)) (List.replicate (n+1) 0):=by rw [hW];simpa using Al.made w w.heap.size (n+1) Ln (by omega)
 have bD:BW w.heap.size w W:=by rw [hW];exact Bn
 have b9:W.cell? ⟨w.heap.size,0,none⟩=some (.int .i64 0):=bc.cell (i:=0) (by simp);have cb:W.frozen? ⟨w.heap.size,0,none⟩=false:=by obtain ⟨c,hc,_⟩:=Cq bc.row (g:=w.heap.size) rfl;exact Af hc 0
 have bv:=bc.uy 0 o;have bb:BW w.heap.size w (W.setCell ⟨w.heap.size,0,none⟩ (.int .i64 o)):=B9 bD Ln;replace ⟨hs,h,aF,aA,s,hr,a6,av⟩:=H8 hs h aF aA s hr a6 av;replace ⟨bc,bD,bv,bb⟩:=H4 bc bD bv bb;go_enter Ti,Tg;go_upto_region 4 with fail;rw [<- hW];clear hW;go_upto_region 5 with fail;clear b9 cb;obtain ⟨W1,bP⟩:=Ex (W.setCell ⟨w.heap.size,0,none⟩ (.int .i64 o));rw [<- bP] at bv bb
 try rw [<- bP]
 clear bP bc bD
 have bM:Hid (∃ fl:List Int,fl.length=n+1/\(∀ k:Nat,k<=0->fl[k]?=some (Dw o d k))/\(∀ k x,k<0->d[k]?=some x->1<=x/\x<=20)/\Al W1 w.heap.size (.slice (some ⟨w.heap.size,0,none⟩) (n+1) (n+1)) fl):=Hh ⟨_,by simp,fun k hk=>by
  have:k=0:=by omega
  subst this
  simp [Dw],fun k x hk=>by omega,bv.out⟩
 replace bM:=Hh bM;go_wp2_with fail;go_loopw [6,7,9,10,46] (fun _ _ _ _ iv wr=>∃ (i:Nat),iv=.int .i64 i/\i<=n/\Hid (BW w.heap.size w wr)/\Hid (∃ fl:List Int,fl.length=n+1/\(∀ k:Nat,k<=i->fl[k]?=some (Dw o d k))/\(∀ k x,k<i->d[k]?=some x->1<=x/\x<=20)/\Al wr w.heap.size (.slice (some ⟨w.heap.size,0,none⟩) (n+1) (n+1)) fl)) (fun _ _ _ _ iv _=>n-(intOf iv).toNat)
 case atStart=>exact ⟨0,rfl,Aq _,bb,bM⟩
 case round=>
  obtain ⟨i,rfl,cm,hb,hG⟩:=hrel;by_cases hc:i<n
  .have bR:(i:Int)<n:=(by omega);have cj:(0:Int)<=(i:Int):=(by omega);obtain ⟨x,hx⟩:=hs.get hc;obtain ⟨b2,cE,rfl,aJ,aZ⟩:=hs.cell i x hx;have ck:=(Ag hb.out aJ).trans aZ;by_cases x1:x<1
   .have p:r=([],1):=(by rw [a6.out,Ad (Acc hx (by simp [x1]))]);replace ⟨hx,aZ,p,aJ⟩:=H4 hx aZ p aJ;go_wp2_with fail;exact Ak (v:=.tuple #[.slice none 0 0,.int .i64 1]) (by simp [results,results99,go_sem]) rfl (Gx.bad p.out (by decide) hb.out)
   .by_cases x2:x > 20
    .have p:r=([],1):=(by rw [a6.out,Ad (Acc hx (by simp;omega))]);replace ⟨hx,aZ,p,aJ⟩:=H4 hx aZ p aJ;go_wp2_with fail;exact Ak (v:=.tuple #[.slice none 0 0,.int .i64 1]) (by simp [results,results99,go_sem]) rfl (Gx.bad p.out (by decide) hb.out)
    .obtain ⟨fl,bd,aR,aX,aG⟩:=hG.out
     have aW:∀ k:Nat,k<=i->o<=Dw o d k/\Dw o d k<=o+20*(k:Int):=fun k=>by
      induction k with
      | zero=>intro _;simp [Dw]
      | succ k ih=>
       intro hk;have ih:=ih (by omega);obtain ⟨y,hy⟩:=hs.get (i:=k) (by omega);have cO:=aX k y (by omega) hy;have e:Dw o d (k+1)=Dw o d k+y:=(by show Dw o d k+(d[k]?).getD 0=_;rw [Gu hy]);rw [e];push_cast;omega
     obtain ⟨f,hf⟩:=Ex (Dw o d i);have bT:=aW i Ln;have bx:=aR i Ln;rw [<- hf] at bT bx;have cf:=aG.cell bx;obtain ⟨y,hy⟩:=Ge fl (i+1) (by omega);have cy:=aG.cell hy;have ff:wr.frozen? ⟨w.heap.size,i+1,none⟩=false:=(by obtain ⟨c,hc,_⟩:=Cq aG.row (g:=w.heap.size) rfl;exact Af hc _);have cv:IntKind.i64.wrap (f+x)=f+x:=Id (by omega) (by omega)
     have bw:Hid (∃ fl:List Int,fl.length=n+1/\(∀ k:Nat,k<=i+1->fl[k]?=some (Dw o d k))/\(∀ k x,k<i+1->d[k]?=some x->1<=x/\x<=20)/\Al (wr.setCell ⟨w.heap.size,i+1,none⟩ (.int .i64 (f+x))) w.heap.size (.slice (some ⟨w.heap.size,0,none⟩) (n+1) (n+1)) fl):=Hh ⟨fl.set (i+1) (f+x),by rw [Dm];exact bd,fun k hk=>by
      rw [Do];by_cases e:i+1=k
      .subst e;rw [Ad rfl,Ad (by omega),hf];show _=some (Dw o d i+(d[i]?).getD 0);rw [Gu hx]
      .rw [Ac e]
       exact aR k (by omega),fun k z hk hz=>by
      by_cases e:k=i
      .subst e;rw [hx] at hz;injection hz with hz;omega
      .exact aX k z (by omega) hz,aG.uy (i+1) (f+x)⟩
     have aQ:BW w.heap.size w (wr.setCell ⟨w.heap.size,i+1,none⟩ (.int .i64 (f+x))):=B9 hb.out Ln;replace ⟨hx,aZ,aJ,bd,aR,aX,aG,aW⟩:=H8 hx aZ aJ bd aR aX aG aW;replace ⟨hf,bT,bx,hy,bw,aQ⟩:=H6 hf bT bx hy bw aQ;go_upto_region 11 with fail;obtain ⟨W2,a1⟩:=Ex (wr.setCell ⟨w.heap.size,i+1,none⟩ (.int .i64 (f+x)));rw [<- a1] at bw aQ;rw [<- a1];clear a1 cf cy ff ck;go_wp2_with fail;go_roundw
     case rel=>exact ⟨i+1,by go_num,by omega,aQ,bw⟩
     case measure=>simp [intOf];omega
  .have bR:¬ (i:Int)<n:=(by omega);have a4:n=i:=(by omega);subst a4;obtain ⟨fl,bd,aR,aX,aG⟩:=hG.out
   have a8:∀ x,x∈d->1<=x/\x<=20:=fun x hx=>by
    obtain ⟨k,hk⟩:=Dg hx;have:=(Ao.1 hk).1;exact aX k x (by have:=aA.out;omega) hk
   have bN:w.heap.size<wr.heap.size:=(by obtain ⟨c,hc,_⟩:=Cq aG.row (g:=w.heap.size) rfl;exact Ab hc);have a0:=ic.start (n:=n) bN (by omega) aG
   have bG:r=if (after.any fun l=>l.any (F5 o d.length))=true then ([],90)
     else if Ji (after.map (Kq o d))=false then ([],91)
     else (after.map (J6 o d),0):=by
    rw [a6.out,Ac];intro e;obtain ⟨x,hx,hp⟩:=Kz.1 e;have:=a8 x hx;simp at hp;omega
   have aQ:BW w.heap.size w ((wr.alloc (.cells (Array.replicate n (Value.slice none 0 0)) 31 (0,0))).alloc (.cells (Array.replicate n (Value.slice none 0 0)) 31 (0,0))):=(hb.alloc (by omega) _).alloc (by simp;omega) _;clear a6;replace ⟨bd,aR,aX,aG,a8,bN,a0,bG⟩:=H8 bd aR aX aG a8 bN a0 bG;replace aQ:=Hh aQ;go_upto_region 14 with fail;obtain ⟨W2,a1⟩:=Ex ((wr.alloc (.cells (Array.replicate n (Value.slice none 0 0)) 31 (0,0))).alloc (.cells (Array.replicate n (Value.slice none 0 0)) 31 (0,0)));rw [<- a1] at a0 aQ;rw [<- a1];clear a1;obtain ⟨g2,bV⟩:=Ex (wr.heap.size+1);rw [<- bV] at a0
   try rw [<- bV]
   obtain ⟨g1,bU⟩:=Ex (wr.heap.size);rw [<- bU] at a0
   try rw [<- bU]
   clear bU bV hG hb aG;have aP:Hid (ic w.heap.size g1 g2 n fl (List.replicate n (.slice none 0 0)) (List.replicate n (.slice none 0 0)) (F9 (Kq o d) after 0) (F9 (J6 o d) after 0) W2):=Hh (by have:=a0.out;simpa [F9,s.out] using this)
   have cc:Hid (∀ (k:Nat) (l:List Int),k<0->after[k]?=some l->l.any (F5 o d.length)=false):=Hh fun k l hk=>by omega
   clear a0;go_wp2_with fail;go_loopw [13,14,16,17,18,76,83] (fun _ _ _ _ _ iv _ wr=>∃ (i:Nat) (s1 s2:List VL),iv=.int .i64 i/\i<=n/\Hid (BW w.heap.size w wr)/\Hid (ic w.heap.size g1 g2 n fl s1 s2 (F9 (Kq o d) after i) (F9 (J6 o d) after i) wr)/\Hid (∀ (k:Nat) (l:List Int),k<i->after[k]?=some l->l.any (F5 o d.length)=false)) (fun _ _ _ _ _ iv _ _=>n-(intOf iv).toNat)
   case atStart=>exact ⟨0,_,_,rfl,Aq _,aQ,aP,cc⟩
   case round=>
    obtain ⟨i,s1,s2,rfl,cm,hb,hT,hB⟩:=hrel;by_cases hc:i<n
    .have bR:(i:Int)<n:=(by omega);have cj:(0:Int)<=(i:Int):=(by omega);obtain ⟨l,hl⟩:=h.get hc;obtain ⟨ba,cG,sl,cP,rfl,cp,bs,aY,bY,bW⟩:=h.cell i l hl;have aT:=aF l (Ai hl);obtain ⟨ln,aM⟩:=Ex (l.length);rw [<- aM] at bs aY bY bW aT;have cl:=(Ag hb.out cp).trans bs;obtain ⟨r1,aN⟩:=Ex (F9 (Kq o d) after i);obtain ⟨r2,aO⟩:=Ex (F9 (J6 o d) after i);have q1:r1[i]?=some []:=(by rw [aN,Xv _ _ _ _ (by rw [s.out];exact hc),Ac (by omega)]);have q2:r2[i]?=some []:=(by rw [aO,Xv _ _ _ _ (by rw [s.out];exact hc),Ac (by omega)]);have p1:r1.length=n:=(by rw [aN,Us,s.out]);have p2:r2.length=n:=(by rw [aO,Us,s.out]);have n1:F9 (Kq o d) after (i+1)=r1.set i (Cy o d l ln).1:=(by rw [aN,aM];show (F9 (Kq o d) after i).set i (Kq o d ((after[i]?).getD []))=_;rw [Gu hl];rfl);have n2:F9 (J6 o d) after (i+1)=r2.set i (Lib.compact (J5 (Cy o d l ln).2)):=(by rw [aO,aM];show (F9 (J6 o d) after i).set i (J6 o d ((after[i]?).getD []))=_;rw [Gu hl];rfl);rw [<- aN,<- aO] at hT
     have ch:Hid (ic w.heap.size g1 g2 n fl s1 s2 (r1.set i (Cy o d l 0).1) (r2.set i (Cy o d l 0).2) wr):=Hh (by
      show ic w.heap.size g1 g2 n fl s1 s2 (r1.set i []) (r2.set i []) wr;rw [Xx q1,Xx q2]
      exact hT.out)
     have cd:Hid (∀ (k:Nat) (x:Int),k<0->l[k]?=some x->F5 o d.length x=false):=Hh fun k x hk=>by omega
     have bA:=Xw o d l (fun x hx=>(a8 x hx).2);clear hT;replace ⟨hl,bs,aY,bY,bW,aT,aM,aN⟩:=H8 hl bs aY bY bW aT aM aN;replace ⟨aO,q1,q2,p1,p2,n1,n2,bA⟩:=H8 aO q1 q2 p1 p2 n1 n2 bA;go_upto_region 17 with fail;clear cl;go_wp2_with fail;go_loopw [16,17,18,83] (fun _ _ _ jv wr=>∃ (j:Nat) (s1 s2:List VL),jv=.int .i64 j/\j<=ln/\Hid (BW w.heap.size w wr)/\Hid (ic w.heap.size g1 g2 n fl s1 s2 (r1.set i (Cy o d l j).1) (r2.set i (Cy o d l j).2) wr)/\Hid (∀ (k:Nat) (x:Int),k<j->l[k]?=some x->F5 o d.length x=false)) (fun _ _ _ jv _=>ln-(intOf jv).toNat)
     case atStart=>exact ⟨0,_,_,rfl,Aq _,hb,ch,cd⟩
     case round=>
      obtain ⟨j,s1,s2,rfl,cI,hb,hT,b4⟩:=hrel;by_cases hd:j<ln
      .have bg:(j:Int)<ln:=(by omega);have bB:(0:Int)<=(j:Int):=(by omega);obtain ⟨x,hx⟩:∃ x,l[j]?=some x:=aY.get hd;obtain ⟨b3,cF,rfl,al,aI⟩:=aY.cell j x hx;have cx:=(Ag hb.out al).trans aI;obtain ⟨nn,aK⟩:=Ex (-(n:Int));have cM:IntKind.i64.wrap (-(n:Int))=nn:=(by rw [aK];exact Id (by omega) (by omega));by_cases aD:F5 o d.length x=true
       .have p:r=([],90):=(by rw [bG.out,Ad];exact Kz.2 ⟨l,Ai hl.out,Acc hx aD⟩);have a2:x=0\/o<=x\/x < -(n:Int):=(by have:=aA.out;simp [F5] at aD;omega);clear aD;by_cases e0:x=0
        .subst e0;clear a2;replace ⟨hx,aI,al,p,aK⟩:=H5 hx aI al p aK;go_wp2_with fail;exact Ak (v:=.tuple #[.slice none 0 0,.int .i64 90]) (by simp [results,results99,go_sem]) rfl (Gx.bad p.out (by decide) hb.out)
        .by_cases e1:x>=o
         .clear a2;replace ⟨hx,aI,al,p,aK⟩:=H5 hx aI al p aK;go_wp2_with fail;exact Ak (v:=.tuple #[.slice none 0 0,.int .i64 90]) (by simp [results,results99,go_sem]) rfl (Gx.bad p.out (by decide) hb.out)
         .have e2:x<nn:=(by omega);clear a2;replace ⟨hx,aI,al,p,aK⟩:=H5 hx aI al p aK;go_wp2_with fail;exact Ak (v:=.tuple #[.slice none 0 0,.int .i64 90]) (by simp [results,results99,go_sem]) rfl (Gx.bad p.out (by decide) hb.out)
       .have hg:=aA.out;have e0:¬ x=0:=fun e=>aD (by simp [F5,e]);have e1:¬ x>=o:=fun e=>aD (by simp [F5];omega);have e2:¬ x<nn:=fun e=>aD (by simp [F5];omega);obtain ⟨ra,aB⟩:=Ex ((Cy o d l j).1);obtain ⟨rb,aC⟩:=Ex ((Cy o d l j).2);have aL:=bA j;rw [<- aB,<- aC] at aL;rw [<- aB,<- aC] at hT
        have b5:Hid (∀ (k:Nat) (y:Int),k<j+1->l[k]?=some y->F5 o d.length y=false):=Hh fun k y hk hy=>by
         by_cases e:k=j
         .subst e;rw [hx] at hy;injection hy with hy;subst hy;simpa using aD
         .exact b4.out k y (by omega) hy
        have q3:(r1.set i ra)[i]?=some ra:=(by rw [Do,Ad rfl,Ad (by have:=p1.out;omega)]);have q4:(r2.set i rb)[i]?=some rb:=(by rw [Do,Ad rfl,Ad (by have:=p2.out;omega)]);clear aD;by_cases cw:x > 0
        .have a5:Cy o d l (j+1)=(ra,rb++[x]):=(by show Mp o d (Cy o d l j) ((l[j]?).getD 0)=_;rw [Gu hx];unfold Mp;rw [Ad cw,aB,aC]);obtain ⟨bf,n3,c3,l3,t1,t2,t3,t4,t5,t6,t7,t8,t9,aH,_⟩:=hT.symm.app (i:=i) (by rw [Dm];have:=p2.out;omega) x;rw [q4] at t2;injection t2 with t2;subst t2;have ad:n3<=1000000000:=(by have:=aT.out;omega);clear t5;replace ⟨hx,aI,al,aK,aB,aC,aL,q3⟩:=H8 hx aI al aK aB aC aL q3;replace ⟨q4,a5,t1,t3,t6,t7,t8,t9⟩:=H8 q4 a5 t1 t3 t6 t7 t8 t9;replace ⟨aH,ad,hg⟩:=H3 aH ad hg;go_upto_region 20 with fail;clear bB bg;go_upto_region 23 with fail;clear cx;have co:=aT.out;have bg:(j:Int)<ln:=(by omega);have bB:(0:Int)<=(j:Int):=(by omega);go_wp2_with (at_builtin;refine Mo rfl _ _ rfl w.heap.size n3 _ rfl t7.out t3.out ⟨wr.heap.size,0,none⟩ 1 rfl x t8.out ad.out t9.out ?_;intro g7 ap w7 h7 ac aE;obtain ⟨k7,f7⟩:=aH w7 ac;replace ⟨h7,ac,aE⟩:=H3 h7 ac aE)
         have u:=(hT.symm.put t6.out t1.out q4.out ac.out h7.out (fun k hk=>by
          simp [Value.ownBlock] at hk;subst hk;rcases aE.out with e | e
          .exact .inl e
          .exact .inr e)).symm
         have am:BW w.heap.size w (w7.setCell ⟨g2,i,none⟩ (.slice (some ⟨g7,0,none⟩) (n3+1) ap)):=hT.symm.below hb.out t6.out t1.out ac.out;rw [P2] at u;have bO:Hid (ic w.heap.size g1 g2 n fl s1 (s2.set i (.slice (some ⟨g7,0,none⟩) (n3+1) ap)) (r1.set i (Cy o d l (j+1)).1) (r2.set i (Cy o d l (j+1)).2) (w7.setCell ⟨g2,i,none⟩ (.slice (some ⟨g7,0,none⟩) (n3+1) ap))):=Hh (by rw [a5.out];exact u);clear u;replace am:=Hh am;go_roundw
         case rel=>
          exact ⟨j+1,_,_,by go_num,by omega,am,bO,b5⟩
         case measure=>
          simp [intOf];omega
        .obtain ⟨kk,b6⟩:∃ kk:Nat,x=-1-(kk:Int):=⟨(-1-x).toNat,by omega⟩;have cJ:kk<n:=(by omega);have cB:(kk:Int)<(n:Int)+1:=(by omega);have cv:IntKind.i64.wrap (-1-x)=(kk:Int):=(by rw [Id (by omega) (by omega)];omega);obtain ⟨z,hz⟩:=Ge d kk (by omega);have bo:=a8 z (Ai hz);obtain ⟨f,hf⟩:=Ex (Dw o d kk);have bS:Dw o d (kk+1)=f+z:=(by rw [hf];show Dw o d kk+(d[kk]?).getD 0=_;rw [Gu hz]);have aW:=Aiu o d a8.out kk;rw [<- hf] at aW;have e4:=aR kk (by omega);rw [<- hf] at e4;have e5:=aR (kk+1) (by omega);rw [bS] at e5;obtain ⟨f2,bi⟩:=Ex (f+z);rw [<- bi] at e5
         have a5:Cy o d l (j+1)=(ra++[(kk:Int)],rb++Jj f z.toNat):=by
          show Mp o d (Cy o d l j) ((l[j]?).getD 0)=_;rw [Gu hx];unfold Mp;rw [Ac (by omega)];have e:-1-x=(kk:Int):=(by omega);rw [e,J8,<- hf,Gu hz,aB,aC]
         obtain ⟨bf,n3,c3,l3,t1,t2,t3,t4,t5,t6,t7,t8,t9,aH,_⟩:=hT.app (i:=i) (by rw [Dm];have:=p1.out;omega) (kk:Int);rw [q3] at t2;injection t2 with t2;subst t2;have ad:n3<=1000000000:=(by have:=aT.out;omega);clear t5;replace ⟨hx,aI,al,aK,aB,aC,aL,q3⟩:=H8 hx aI al aK aB aC aL q3;replace ⟨q4,a5,t1,t3,t6,t7,t8,t9⟩:=H8 q4 a5 t1 t3 t6 t7 t8 t9;replace ⟨aH,ad,hg,b6,hz,bo,hf,bS⟩:=H8 aH ad hg b6 hz bo hf bS;replace ⟨aW,e4,e5,bi⟩:=H4 aW e4 e5 bi;go_upto_region 20 with fail;clear bB bg;go_upto_region 25 with fail;clear cx;go_upto_region 26 with (at_builtin;refine Mo rfl _ _ rfl w.heap.size n3 _ rfl t7.out t3.out ⟨wr.heap.size,0,none⟩ 1 rfl (kk:Int) t8.out ad.out t9.out ?_;intro g7 ap w7 h7 ac aE;obtain ⟨k7,f7⟩:=aH w7 ac;replace ⟨h7,ac,aE⟩:=H3 h7 ac aE)
         have u:=hT.put t6.out t1.out q3.out ac.out h7.out (fun k hk=>by
          simp [Value.ownBlock] at hk;subst hk;rcases aE.out with e | e
          .exact .inl e
          .exact .inr e)
         have am:BW w.heap.size w (w7.setCell ⟨g1,i,none⟩ (.slice (some ⟨g7,0,none⟩) (n3+1) ap)):=hT.below hb.out t6.out t1.out ac.out;rw [P2] at u;obtain ⟨W3,bQ⟩:=Ex (w7.setCell ⟨g1,i,none⟩ (.slice (some ⟨g7,0,none⟩) (n3+1) ap));rw [<- bQ] at u am;rw [<- bQ]
         have cf:=u.first.cell e4.out
         have bO:Hid (ic w.heap.size g1 g2 n fl (s1.set i (.slice (some ⟨g7,0,none⟩) (n3+1) ap)) s2 (r1.set i (ra++[(kk:Int)])) (r2.set i (rb++Jj f 0)) W3):=Hh (by simpa [Jj] using u);clear u bQ k7 f7 t4 h7 ac aE hT t1 t3 t6 t7 t8 t9 aH;have cs:Hid (f=f+((0:Nat):Int)):=Hh (by simp);replace am:=Hh am;go_wp2_with fail;clear cf;go_loopw [18] (fun b0 wr=>∃ (vt:Int) (t:Nat) (s2:List VL),b0=.int .i64 vt/\Hid (vt=f+(t:Int))/\t<=z.toNat/\Hid (BW w.heap.size w wr)/\Hid (ic w.heap.size g1 g2 n fl (s1.set i (.slice (some ⟨g7,0,none⟩) (n3+1) ap)) s2 (r1.set i (ra++[(kk:Int)])) (r2.set i (rb++Jj f t)) wr)) (fun b0 _=>(f2-intOf b0).toNat)
         case atStart=>exact ⟨f,0,_,rfl,cs,Aq _,am,bO⟩
         case round=>
          obtain ⟨vt,t,s2,rfl,bn,cL,hb,hT⟩:=hrel
          have ca:=hT.first.cell e5.out
          by_cases hm:t<z.toNat
          .have be:vt<f2:=(by have:=bn.out;have:=bi.out;omega);have cN:IntKind.i64.wrap (vt+1)=vt+1:=(by have:=bn.out;have:=aW.out;have:=bo.out;exact Id (by omega) (by omega));have ct:Hid (vt+1=f+((t+1:Nat):Int)):=Hh (by have:=bn.out;push_cast;omega);have q5:(r2.set i (rb++Jj f t))[i]?=some (rb++Jj f t):=(by rw [Do,Ad rfl,Ad (by have:=p2.out;omega)]);obtain ⟨cQ,n4,cH,l4,t1,t2,t3,t4,t5,t6,t7,t8,t9,aH,_⟩:=hT.symm.app (i:=i) (by rw [Dm];have:=p2.out;omega) vt;rw [q5] at t2;injection t2 with t2;subst t2;have ad:n4<=1000000000:=(by have:=aT.out;have:=aL.out;have:=bo.out;simp [Jj] at t3;omega);have bk:Hid ((f2-(vt+1)).toNat<(f2-vt).toNat):=Hh (by omega);clear t5;replace ⟨q5,t1,t3,t6,t7,t8,t9,aH⟩:=H8 q5 t1 t3 t6 t7 t8 t9 aH;replace ad:=Hh ad;go_upto_region 29 with fail;clear ca;go_wp2_with (at_builtin;refine Mo rfl _ _ rfl w.heap.size n4 _ rfl t7.out t3.out ⟨wr.heap.size,0,none⟩ 1 rfl vt t8.out ad.out t9.out ?_;intro g8 b1 w7 h7 ac aE;obtain ⟨k7,f7⟩:=aH w7 ac;replace ⟨h7,ac,aE⟩:=H3 h7 ac aE)
           have u:=(hT.symm.put t6.out t1.out q5.out ac.out h7.out (fun k hk=>by
          simp [Value.ownBlock] at hk;subst hk;rcases aE.out with e | e
          .exact .inl e
          .exact .inr e)).symm
           have am:BW w.heap.size w (w7.setCell ⟨g2,i,none⟩ (.slice (some ⟨g8,0,none⟩) (n4+1) b1)):=hT.symm.below hb.out t6.out t1.out ac.out;rw [P2] at u;have bL:Jj f t++[vt]=Jj f (t+1):=(by rw [Avg,<- bn.out]);rw [Ky,bL] at u;clear bL;replace ⟨am,u⟩:=H2 am u;go_roundw
           case rel=>exact ⟨vt+1,t+1,_,by go_num,ct,by omega,am,u⟩
           case measure=>simpa [intOf] using bk.out
          .have be:¬ vt<f2:=(by have:=bn.out;have:=bi.out;have:=bo.out;omega);have b8:t=z.toNat:=(by omega);have ci:Hid (ic w.heap.size g1 g2 n fl (s1.set i (.slice (some ⟨g7,0,none⟩) (n3+1) ap)) s2 (r1.set i (Cy o d l (j+1)).1) (r2.set i (Cy o d l (j+1)).2) wr):=Hh (by rw [a5.out,<- b8];exact hT.out);clear b8 hT;have co:=aT.out;have bg:(j:Int)<ln:=(by omega);have bB:(0:Int)<=(j:Int):=(by omega);go_wp2_with fail;go_roundw
           case rel=>
            exact ⟨j+1,_,_,by go_num,by omega,hb,ci,b5⟩
           case measure=>
            simp [intOf];omega
      .have bg:¬ (j:Int)<ln:=(by omega);have bC:ln=j:=(by omega);obtain ⟨ra,aB⟩:=Ex ((Cy o d l j).1);obtain ⟨rb,aC⟩:=Ex ((Cy o d l j).2);have aL:=bA j;have bI:=n1.out;have bJ:=n2.out;rw [bC,<- aB] at bI;rw [bC,<- aC] at bJ;rw [<- aB,<- aC] at hT aL;have q4:(r2.set i rb)[i]?=some rb:=(by rw [Do,Ad rfl,Ad (by have:=p2.out;omega)]);obtain ⟨bf,n3,c3,l3,t1,t2,t3,t4,t5,_,_,_,_,_,bK⟩:=hT.symm.app (i:=i) (by rw [Dm];have:=p2.out;omega) 0;rw [q4] at t2;injection t2 with t2;subst t2;have bE:rb.length<=1000000:=(by have:=aT.out;omega);have a7:=Ave t5 bE;have a3:∀ w1,Al w1 w.heap.size (.slice bf n3 c3) (J5 rb)->CS prog 155 #[.slice bf n3 c3] w1 fun e w'=>∃ v',e=.returned v'/\Al w' w.heap.size v' (Lib.compact (J5 rb))/\Mod (fun b=>(Value.slice bf n3 c3).ownBlock=some b) w1 w'/\v'.ownBlock=(Value.slice bf n3 c3).ownBlock:=fun w1 h1=>Avf h1 (by rw [Xu];exact bE)
       have ce:Hid (∀ (k:Nat) (l':List Int),k<i+1->after[k]?=some l'->l'.any (F5 o d.length)=false):=Hh fun k l' hk aS=>by
        by_cases e:k=i
        .subst e;rw [hl.out] at aS;injection aS with aS;subst aS;refine List.any_eq_false.2 fun y hy=>?_;obtain ⟨q,hq⟩:=Dg hy;have cK:=(Ao.1 hq).1;rw [b4 q y (by have:=aM.out;omega) hq];decide
        .exact hB.out k l' (by omega) aS
       replace ⟨aB,aC,bI,bJ,aL,q4,t1,t3⟩:=H8 aB aC bI bJ aL q4 t1 t3;replace ⟨t5,bK,bE,a7,a3,bC⟩:=H6 t5 bK bE a7 a3 bC;go_upto_region 32 with (go_at_call 91;(with_reducible refine (a7.out).mono ?_);rintro e w1 ⟨rfl,bX,be⟩;obtain ⟨k1,f1⟩:=bK w1 be;replace ⟨bX,be⟩:=H2 bX be);clear t4;go_wp2_with (go_at_call 155;(with_reducible refine (a3.out _ bX.out).mono ?_);rintro e w2 ⟨v2,rfl,bF,bk,bZ⟩;obtain ⟨cA,n5,c5,rfl,b7⟩:=bF.len;replace b7:=Hh b7;have bl:=be.trans bk;obtain ⟨k2,f2⟩:=bK w2 bl;clear k1 f1;replace ⟨bF,bk,bl,bZ⟩:=H4 bF bk bl bZ);have u:=(hT.symm.put (Below.refl _ _) t1.out q4.out (Mod.grownBy bl.out) bF.out (fun k hk=>.inl (by rw [<- bZ.out];exact hk))).symm;have am:BW w.heap.size w (w2.setCell ⟨g2,i,none⟩ (.slice cA n5 c5)):=hT.symm.below hb.out (Below.refl _ _) t1.out (Mod.grownBy bl.out);rw [P2,<- bI.out,<- bJ.out] at u;replace ⟨u,am⟩:=H2 u am;go_roundw
       case rel=>exact ⟨i+1,_,_,by go_num,by omega,am,u,ce⟩
       case measure=>simp [intOf];omega
    .have bR:¬ (i:Int)<n:=(by omega);have a4:n=i:=(by omega);have aP:=hT.out;rw [<- a4,<- s.out,Ait,Ait] at aP;have p:r=if Ji (after.map (Kq o d))=false then ([],91) else (after.map (J6 o d),0):=by rw [bG.out,Ac];intro e;obtain ⟨l',aS,hp⟩:=Kz.1 e;obtain ⟨k,hk⟩:=Dg aS;have:=(Ao.1 hk).1;rw [hB k l' (by have:=s.out;omega) hk] at hp;cases hp
     have bH:=aP.a.rows (by rw [At];have:=s.out;omega) (fun l' aS=>by
      obtain ⟨l0,h0,rfl⟩:=Ba.1 aS;have h1:=aF l0 h0;have h2:=(Xw o d l0 (fun x hx=>(a8 x hx).2) l0.length).1;show (Cy o d l0 l0.length).1.length<=100000
      omega)
     rw [At,s.out] at bH;have aV:=Avb (some ⟨g1,0,none⟩) n n (after.map (Kq o d)) wr bH;by_cases a9:Ji (after.map (Kq o d))=true
     .rw [a9] at aV;have an:r=(after.map (J6 o d),0):=(by rw [p,a9,Ac (by decide)]);clear p a9 bH hT;replace ⟨aP,an,aV,a4⟩:=H4 aP an aV a4;go_wp2_with (go_at_call 156;(with_reducible refine (aV.out).mono ?_);rintro e w1 ⟨rfl,aU⟩;replace aU:=Hh aU);refine Ak (v:=.tuple #[.slice (some ⟨g2,0,none⟩) n n,.int .i64 0]) (by simp [results,results99,go_sem]) rfl ⟨_,by rw [an.out],fun e=>absurd (by rw [an.out]) e,fun _=>⟨g2,s2,?_,?_⟩,hb.trans (aU.mono hb.size)⟩
      .rw [an.out,At,s.out]
      .have:=aP.b.low aU.out;rw [an.out,At];exact this
     .rw [Za] at a9;rw [a9] at aV;have an:r=([],91):=(by rw [p,a9,Ad rfl]);clear p a9 bH hT;replace ⟨aP,an,aV,a4⟩:=H4 aP an aV a4;go_wp2_with (go_at_call 156;(with_reducible refine (aV.out).mono ?_);rintro e w1 ⟨rfl,aU⟩;replace aU:=Hh aU);exact Ak (v:=.tuple #[.slice none 0 0,.int .i64 91]) (by simp [results,results99,go_sem]) rfl (Gx.bad an.out (by decide) (hb.trans (aU.mono hb.size)))
