/- Parts Rsv, Rsw. Plain theorems: no condition. -/
import Derived.Test.YtimlcnhcjndijaaGreatDoorQ34
import Derived.Test.YtimlcnhcjndijaaGreatDoorQ35
set_option linter.all false
set_option maxRecDepth 100000
set_option maxHeartbeats 4000000
namespace Go.Proofs.YtimlcnhcjndijaaGreatDoor
open Go.RowKit Go.Maps Go.Lib
def I4 (f:Int) (t:Nat):List Int:=(List.range t).map fun (j:Nat)=>f+(j:Int)
def Atc (f:Int) (t:Nat):I4 f (t+1)=I4 f t++[f+(t:Int)]:=by simp [I4,List.range_succ]
def Dq (next:Int) (sizes:List Int):Nat->Int
 | 0=>next
 | k+1=>Dq next sizes k+(sizes[k]?).getD 0
def Ml (next:Int) (sizes:List Int) (r:List Int×List Int) (n:Int):List Int×List Int:=
 if 0<n then (r.1,r.2++[n]) else (r.1++[-1-n],r.2++I4 (Dq next sizes (-1-n).toNat) ((sizes[(-1-n).toNat]?).getD 0).toNat)
def B9 (next:Int) (sizes l:List Int):Nat->List Int×List Int
 | 0=>([],[])
 | j+1=>Ml next sizes (B9 next sizes l j) ((l[j]?).getD 0)
def Jr (next:Int) (sizes l:List Int):List Int:=(B9 next sizes l l.length).1
def Fq (next:Int) (sizes l:List Int):List Int:=Lib.compact (Ez (B9 next sizes l l.length).2)
def F6 (f:List Int->List Int) (after:List (List Int)):Nat->List (List Int)
 | 0=>List.replicate after.length []
 | i+1=>(F6 f after i).set i (f ((after[i]?).getD []))
def Uk (f:List Int->List Int) (after:List (List Int)):∀ i,(F6 f after i).length=after.length
 | 0=>by simp [F6]
 | i+1=>by simp [F6,Uk f after i]
def Wo (f:List Int->List Int) (after:List (List Int)):∀ (i k:Nat),k<after.length->(F6 f after i)[k]?=some (if k<i then f ((after[k]?).getD []) else [])
 | 0,k,hk=>by simp [F6,hk]
 | i+1,k,hk=>by
  have b:=Wo f after i k hk;have c:=Uk f after i;show ((F6 f after i).set i _)[k]?=_;rw [Do];by_cases h:i=k
  .subst h;simp [c,hk]
  .rw [Ac h,b];by_cases a:k<i
   .rw [Ad a,Ad (by omega)]
   .rw [Ac a,Ac (by omega)]
def Agk (f:List Int->List Int) (after:List (List Int)):F6 f after after.length=after.map f:=by
 apply Ee;intro k;by_cases a:k<after.length
 .rw [Wo f after _ k a,Ad a];simp [a]
 .rw [Q4 (by rw [Uk];omega),Q4 (by simp;omega)]
def E0 (next:Int) (sizes:List Int) (after:List (List Int)):List (List Int)×Int:=
 if next<1\/1099511627776<next\/8<sizes.length\/after.length≠sizes.length then ([],1)
 else if (sizes.any fun n=>decide (n<1) || decide (20<n))=true then ([],1)
 else if (after.any fun l=>l.any (F1 next sizes.length))=true then ([],90)
 else if Ij (after.map (Jr next sizes))=false then ([],91)
 else (after.map (Fq next sizes),0)
def Wp (b:Int) (a l:List Int) (c:∀ n,n∈a->n<=20):∀ j,(B9 b a l j).1.length<=j/\(B9 b a l j).2.length<=20*j
 | 0=>by simp [B9]
 | j+1=>by
  obtain ⟨h1,d⟩:=Wp b a l c j;show (Ml b a (B9 b a l j) _).1.length<=_/\(Ml b a (B9 b a l j) _).2.length<=_;unfold Ml;split
  .simp only [De,List.length_singleton];omega
  .have:∀ k:Nat,((a[k]?).getD 0).toNat<=20:=fun k=>by
    cases h:a[k]? with
    | none=>simp
    | some n=>have:=c n (Aj h);simp;omega
   simp only [De,List.length_singleton,I4,Ax,List.length_range];have:=this (-1-(l[j]?).getD 0).toNat;omega
def Agl (b:Int) (a:List Int) (c:∀ n,n∈a->1<=n/\n<=20):∀ k:Nat,b<=Dq b a k/\Dq b a k<=b+20*(k:Int)
 | 0=>by simp [Dq]
 | k+1=>by
  obtain ⟨h1,d⟩:=Agl b a c k;show b<=Dq b a k+(a[k]?).getD 0/\_
  have:0<=(a[k]?).getD 0/\(a[k]?).getD 0<=20:=by
   cases h:a[k]? with
   | none=>simp
   | some n=>have:=c n (Aj h);simp;omega
  constructor
  .omega
  .show Dq b a k+(a[k]?).getD 0<=_;push_cast;omega
structure gq (B g1 g2 m:Nat) (fl:List Int) (s1 s2:List Value) (l1 l2:List (List Int)) (w:World):Prop where
 a:Cx w B g1 m s1 l1
 b:Cx w B g2 m s2 l2
 ng:g1≠g2
 b1:B<g1
 b2:B<g2
 na:∀ (i:Nat) (sv:Value),s1[i]?=some sv->sv.ownBlock≠some B/\sv.ownBlock≠some g2
 nb:∀ (i:Nat) (sv:Value),s2[i]?=some sv->sv.ownBlock≠some B/\sv.ownBlock≠some g1
 two:∀ (i j:Nat) (u v:Value),s1[i]?=some u->s2[j]?=some v->∀ k,u.ownBlock=some k->v.ownBlock≠some k
 first:Ak w B (.slice (some ⟨B,0,none⟩) (m+1) (m+1)) fl
variable {B g1 g2 m:Nat} {fl:List Int} {s1 s2:List Value} {l1 l2:List (List Int)}
def gq.symm {w:World} (h:gq B g1 g2 m fl s1 s2 l1 l2 w):gq B g2 g1 m fl s2 s1 l2 l1 w:=
 ⟨h.b,h.a,fun e=>h.ng e.symm,h.b2,h.b1,h.nb,h.na,fun i j u v c d k f e=>h.two j i v u d c k e f,h.first⟩
def gq.drop {w w1:World} (h:gq B g1 g2 m fl s1 s2 l1 l2 w) (d:Below w.heap.size w w1):gq B g1 g2 m fl s1 s2 l1 l2 w1:=
 ⟨h.a.low d,h.b.low d,h.ng,h.b1,h.b2,h.na,h.nb,h.two,h.first.mod (Mod.af (S:=fun _=>False) d) (fun _ _ c=>c)⟩
def gq.put {w w1 o:World} (h:gq B g1 g2 m fl s1 s2 l1 l2 w) (x:Below w.heap.size w w1) {i:Nat} {g p:Value} {l y:List Int} (n:s1[i]?=some g) (hl:l1[i]?=some l) (z:w1.grownBy o g.ownBlock) (ho:Ak o B p y)
  (s:∀ k,p.ownBlock=some k->g.ownBlock=some k\/k=w1.heap.size):gq B g1 g2 m fl (s1.set i p) s2 (l1.set i y) l2 (o.setCell ⟨g1,i,none⟩ p):=by
 have h1:=h.drop x;have hm:=Mod.grown z (fun k f=>f);have r:Mod (fun k=>k=g1) o (o.setCell ⟨g1,i,none⟩ p):=Mod.setCell o g1 i p rfl;have ac:=x.size;have ad:=h.b.aq.2.1;have al:=h.a.aq.2.1;have hB:=h.b1;refine ⟨h1.a.put n hl z ho s,(h1.b.off hm (h.na i g n).2 (fun j u d k f e=>h.two i j g u n d k e f)).off r (fun e=>h.ng e.symm) (fun j u d k f e=>(h.nb j u d).2 (by rw [f,e])),h.ng,h.b1,h.b2,?_,h.nb,?_,?_⟩
 .intro j u d;rw [Do] at d;split at d
  .split at d
   .injection d with d;subst d;refine ⟨fun e=>?_,fun e=>?_⟩
    .rcases s _ e with c | c
     .exact (h.na i g n).1 c
     .omega
    .rcases s _ e with c | c
     .exact (h.na i g n).2 c
     .omega
   .cases d
  .exact h.na j u d
 .intro j k u v d t q hq e;rw [Do] at d;split at d
  .split at d
   .injection d with d;subst d;rcases s _ hq with c | c
    .exact h.two i k g v n t q c e
    .have f:k<l2.length:=(by rw [<- h.b.len];exact (Aq.1 t).1);have:=((h.b.each k v _ t (Am f)).lt q e).2;omega
   .cases d
  .exact h.two j k u v d t q hq e
 .exact (h1.first.mod hm (fun k f e=>by simp [Value.ownBlock] at f;subst f;exact (h.na i g n).1 e)).mod r (fun k f e=>by simp [Value.ownBlock] at f;omega)
def gq.below {b w w1 g:World} (h:gq b.heap.size g1 g2 m fl s1 s2 l1 l2 w) (c:Below b.heap.size b w) (l:Below w.heap.size w w1) {i:Nat} {d n:Value} (j:s1[i]?=some d) (o:w1.grownBy g d.ownBlock):Below b.heap.size b (g.setCell ⟨g1,i,none⟩ n):=by
 have e:=fun k p=>by
  have f:i<l1.length:=by rw [<- h.a.len];exact (Aq.1 j).1
  exact ((h.a.each i d _ j (Am f)).lt k p).1
 have h1:=c.trans (l.mono c.size);have:=h.b1;exact C9 (h1.grown o h1.size e) (by omega)
def Ak.uu {w:World} {B g n c:Nat} {l:List Int} (h:Ak w B (.slice (some ⟨g,0,none⟩) n c) l) (i:Nat) (y:Int):Ak (w.setCell ⟨g,i,none⟩ (.int .i64 y)) B (.slice (some ⟨g,0,none⟩) n c) (l.set i y):=by
 have a:=h.num;subst a;refine ⟨?_⟩;have:=(h.row.stored i (.int .i64 y)).1;rw [Dg];have e:Bs (l.set i y)=(Bs l).set i (.int .i64 y):=by simp [Bs,Mw]
 rw [e];exact this
def gq.app {w:World} (h:gq B g1 g2 m fl s1 s2 l1 l2 w) {i:Nat} (u:i<l1.length) (x:Int):∃ so n c l,s1[i]?=some (.slice so n c)/\l1[i]?=some l/\l.length=n/\w.cell? ⟨g1,i,none⟩=some (.slice so n c)/\Ak w B (.slice so n c) l /\
  Below w.heap.size w (w.alloc (.cells #[.int .i64 x] 3 (0,0)))/\Ak (w.alloc (.cells #[.int .i64 x] 3 (0,0))) B (.slice so n c) l/\(w.alloc (.cells #[.int .i64 x] 3 (0,0))).cell? ⟨w.heap.size,0,none⟩=some (.int .i64 x)/\B<=(w.alloc (.cells #[.int .i64 x] 3 (0,0))).heap.size /\
  (∀ d,(w.alloc (.cells #[.int .i64 x] 3 (0,0))).grownBy d (Value.slice so n c).ownBlock->d.cell? ⟨g1,i,none⟩=some (.slice so n c)/\d.frozen? ⟨g1,i,none⟩=false) /\
  (∀ d,Mod (fun b=>(Value.slice so n c).ownBlock=some b) w d->d.cell? ⟨g1,i,none⟩=some (.slice so n c)/\d.frozen? ⟨g1,i,none⟩=false):=by
 obtain ⟨p,v,y,z,r,s,e3,q,t⟩:=h.a.get u;have g:=h.a.ne r s;have j:=h.a.aq.2.1;have hB:=h.b1;have f:Below w.heap.size w (w.alloc (.cells #[.int .i64 x] 3 (0,0))):=Bn;have h2:=f.size;refine ⟨p,v,y,z,r,s,e3.symm,q,t,f,t.mod (Mod.af (S:=fun _=>False) f) (fun _ _ c=>c),Aa (Af _ _) 0,by omega,fun d hg=>?_,fun d hm=>?_⟩
 .have k:=hg.block g1 (by omega) (fun e=>g e.symm);have o:=(f.block g1 j);exact ⟨(Bp (a:=⟨g1,i,none⟩) (k.trans o)).trans q,(Ok (a:=⟨g1,i,none⟩) (k.trans o)).trans (h.a.row.frozenAt i)⟩
 .have k:=hm.block g1 j (fun e=>g e);exact ⟨(Bp (a:=⟨g1,i,none⟩) k).trans q,(Ok (a:=⟨g1,i,none⟩) k).trans (h.a.row.frozenAt i)⟩
def Cx.rows {w:World} {B g cap:Nat} {d:List Value} {a:List (List Int)} (h:Cx w B g cap d a) (h1:a.length<=1000) (p:∀ l,l∈a->l.length<=100000):Qv w (some ⟨g,0,none⟩) a.length a:=by
 refine ⟨rfl,h1,fun i l f=>?_⟩;have q:=(Aq.1 f).1;obtain ⟨so,n,c,x,y,b,r,s,m⟩:=h.get q;rw [f] at b;injection b with b;subst b;subst r;obtain ⟨t,z,j,u⟩:=Ab2 m;injection j with j _ e8;subst j;subst e8;refine ⟨g,0,so,c,rfl,h.aq.2.1,by rw [D2];exact s,u,?_,p l (Aj f)⟩;rcases m.row.2 with ⟨e,h0⟩ | ⟨g',o,v,e,_,_,k,_⟩
 .have:l.length=0:=h0;omega
 .injection e with _ _ e;subst e;exact k
def Wq {α:Type} {l:List α} {i:Nat} {x:α} (h:l[i]?=some x):l.set i x=l:=by
 apply Ee;intro k;rw [Do];by_cases e:i=k
 .subst e;rw [Ad rfl,Ad (Aq.1 h).1,h]
 .rw [Ac e]
def gq.start {w:World} {B n:Nat} {h:List Int} (o:B<w.heap.size) (t:n<=1000) (p:Ak w B (.slice (some ⟨B,0,none⟩) (n+1) (n+1)) h):gq B w.heap.size (w.heap.size+1) n h (List.replicate n (.slice none 0 0)) (List.replicate n (.slice none 0 0)) (List.replicate n []) (List.replicate n []) ((w.alloc (.cells (Array.replicate n (Value.slice none 0 0)) 31 (0,0))).alloc (.cells (Array.replicate n (Value.slice none 0 0)) 31 (0,0))):=by
 have h1:=Cx.made w B n (by omega) (by omega);have d:=Cx.made (w.alloc (.cells (List.replicate n (Value.slice none 0 0)).toArray 31 (0,0))) B n (by simp;omega) (by omega);have f:Below w.heap.size w (w.alloc (.cells (List.replicate n (Value.slice none 0 0)).toArray 31 (0,0))):=Bn;have a:Below (w.alloc (.cells (List.replicate n (Value.slice none 0 0)).toArray 31 (0,0))).heap.size (w.alloc (.cells (List.replicate n (Value.slice none 0 0)).toArray 31 (0,0))) ((w.alloc (.cells (List.replicate n (Value.slice none 0 0)).toArray 31 (0,0))).alloc (.cells (List.replicate n (Value.slice none 0 0)).toArray 31 (0,0))):=Bn;have l:=h1.low a;have m:=(p.mod (Mod.af (S:=fun _=>False) f) (fun _ _ c=>c)).mod (Mod.af (S:=fun _=>False) a) (fun _ _ c=>c);simp only [List.toArray_replicate] at d l m;have e:(w.alloc (.cells (Array.replicate n (Value.slice none 0 0)) 31 (0,0))).heap.size=w.heap.size+1:=by simp
 rw [e] at d;refine ⟨l,d,by omega,o,by omega,fun i q g=>?_,fun i q g=>?_,fun i j u v r x k s=>?_,m⟩
 .have b:=Q3 (Aj g);subst b;simp [Value.ownBlock]
 .have b:=Q3 (Aj g);subst b;simp [Value.ownBlock]
 .have b:=Q3 (Aj r);subst b;simp [Value.ownBlock] at s
end Go.Proofs.YtimlcnhcjndijaaGreatDoor
namespace Go.Proofs.YtimlcnhcjndijaaGreatDoor
open Go.RowKit Go.Maps Go.Lib
def Gp (r:List (List Int)×Int) (w:World) (e:Ending) (w':World):Prop:=
 ∃ v,e=.returned (.tuple #[v,.int .i64 r.2])/\(r.2≠0->v=.slice none 0 0)/\(r.2=0->∃ g s2,v=.slice (some ⟨g,0,none⟩) r.1.length r.1.length/\Cx w' w.heap.size g r.1.length s2 r.1)/\Below w.heap.size w w'
def Gp.bad {r:List (List Int)×Int} {k:Int} {w w':World} (h:r=([],k)) (a:k≠0) (b:Below w.heap.size w w'):Gp r w (.returned (.tuple #[.slice none 0 0,.int .i64 k])) w':=by
 subst h;exact ⟨_,rfl,fun _=>rfl,fun e=>absurd e a,b⟩
def Aas {l:List Int} {p:Int->Bool} {i:Nat} {x:Int} (a:l[i]?=some x) (b:p x=true):l.any p=true:=Kv.2 ⟨x,Aj a,b⟩
def Av3 (o:Int) (so:Option Addr) (m sc:Nat) (d:List Int) (ao:Option Addr) (n c:Nat) (after:List (List Int)) (w:World) (hs:Ap w so m d) (h:Qv w ao n after) (aE:∀ l,l∈after->l.length<=1000) :
  Calls Tryz.prog 99 #[.int .i64 o,.slice so m sc,.slice ao n c] w (Gp (E0 o d after) w):=by
 have ap:=hs.len;have s:=h.len;have av:Below w.heap.size w w:=Below.refl _ _;by_cases c0:o<1\/1099511627776<o\/8<d.length\/after.length≠d.length
 .have hr:E0 o d after=([],1):=by unfold E0;rw [Ad c0]
  rw [ap,s] at c0;by_cases c1:o<1
  .clear c0;replace ⟨hs,h,aE,ap,s,hr,av⟩:=H7 hs h aE ap s hr av;go_enter Tryz.func99,Tryz.ntmps99;go_wp2_with fail;exact Ao (v:=.tuple #[.slice none 0 0,.int .i64 1]) (by simp [results,Lv,go_sem]) rfl (Gp.bad hr.out (by decide) av.out)
  .by_cases c2:o > 1099511627776
   .clear c0;replace ⟨hs,h,aE,ap,s,hr,av⟩:=H7 hs h aE ap s hr av;go_enter Tryz.func99,Tryz.ntmps99;go_wp2_with fail;exact Ao (v:=.tuple #[.slice none 0 0,.int .i64 1]) (by simp [results,Lv,go_sem]) rfl (Gp.bad hr.out (by decide) av.out)
   .by_cases c3:(m:Int) > 8
    .clear c0;replace ⟨hs,h,aE,ap,s,hr,av⟩:=H7 hs h aE ap s hr av;go_enter Tryz.func99,Tryz.ntmps99;go_wp2_with fail;exact Ao (v:=.tuple #[.slice none 0 0,.int .i64 1]) (by simp [results,Lv,go_sem]) rfl (Gp.bad hr.out (by decide) av.out)
    .have c4:((n:Int) != (m:Int))=true:=(by rw [Fg];omega);clear c0;replace ⟨hs,h,aE,ap,s,hr,av⟩:=H7 hs h aE ap s hr av;go_enter Tryz.func99,Tryz.ntmps99;go_wp2_with fail;exact Ao (v:=.tuple #[.slice none 0 0,.int .i64 1]) (by simp [results,Lv,go_sem]) rfl (Gp.bad hr.out (by decide) av.out)
 have aZ:E0 o d after=if (d.any fun n=>decide (n<1) || decide (20<n))=true then ([],1)
   else if (after.any fun l=>l.any (F1 o d.length))=true then ([],90)
   else if Ij (after.map (Jr o d))=false then ([],91)
   else (after.map (Fq o d),0):=by
  unfold E0;rw [Ac c0]
 obtain ⟨r,hr⟩:=Ex (E0 o d after);rw [<- hr];rw [<- hr] at aZ;have c1:¬ o<1:=fun e=>c0 (.inl e);have c2:¬ o > 1099511627776:=fun e=>c0 (.inr (.inl e));have c3:¬ (m:Int) > 8:=fun e=>c0 (.inr (.inr (.inl (by omega))))
 have ca:n=m:=by
  by_cases e:n=m
  .exact e
  .exact absurd (.inr (.inr (.inr (by omega)))) c0
 subst ca;have c4:((n:Int) != (n:Int))=false:=by simp
 clear c0;have cC:∀ w:World,(Instr.makeSlice 31 (.int .i64 ((n:Int)+1)) (.int .i64 ((n:Int)+1))).run Tryz.prog w=.ok (.slice (some ⟨w.heap.size,0,none⟩) (n+1) (n+1)) (w.alloc (.cells (List.replicate (n+1) (Value.int .i64 0)).toArray 3 (0,0))):=by have:=Agi (n+1) (by omega);simpa using this
 have cD:=Agj n (by omega);obtain ⟨W,hW⟩:=Ex (w.alloc (.cells (Array.replicate (n+1) (Value.int .i64 0)) 3 (0,0)));have bc:Ak W w.heap.size (.slice (some ⟨w.heap.size,0,none⟩) (n+1) (n+1)) (List.replicate (n+1) 0):=by rw [hW];simpa using Ak.made w w.heap.size (n+1) Ln (by omega)
 have bv:Below w.heap.size w W:=by rw [hW];exact Bn
 have cb:W.cell? ⟨w.heap.size,0,none⟩=some (.int .i64 0):=bc.cell (i:=0) (by simp);have cc:W.frozen? ⟨w.heap.size,0,none⟩=false:=by obtain ⟨c,hc,_⟩:=C1 bc.row (g:=w.heap.size) rfl;exact Ah hc 0
 have bw:=bc.uu 0 o;have bb:Below w.heap.size w (W.setCell ⟨w.heap.size,0,none⟩ (.int .i64 o)):=C9 bv Ln;replace ⟨hs,h,aE,ap,s,hr,aZ,av⟩:=H8 hs h aE ap s hr aZ av;replace ⟨bc,bv,bw,bb⟩:=H4 bc bv bw bb;go_enter Tryz.func99,Tryz.ntmps99;go_upto_region 4 with fail;rw [<- hW];clear hW;go_upto_region 5 with fail;clear cb cc;obtain ⟨W1,bN⟩:=Ex (W.setCell ⟨w.heap.size,0,none⟩ (.int .i64 o));rw [<- bN] at bw bb
 try rw [<- bN]
 clear bN bc bv
 have bO:Hid (∃ fl:List Int,fl.length=n+1/\(∀ k:Nat,k<=0->fl[k]?=some (Dq o d k))/\(∀ k x,k<0->d[k]?=some x->1<=x/\x<=20)/\Ak W1 w.heap.size (.slice (some ⟨w.heap.size,0,none⟩) (n+1) (n+1)) fl):=Hh ⟨_,by simp,fun k hk=>by
  have:k=0:=by omega
  subst this
  simp [Dq],fun k x hk=>by omega,bw.out⟩
 replace bO:=Hh bO;go_wp2_with fail;go_loopw [6,7,9,10,46] (fun _ _ _ _ iv wr=>∃ (i:Nat),iv=.int .i64 i/\i<=n/\Hid (Below w.heap.size w wr)/\Hid (∃ fl:List Int,fl.length=n+1/\(∀ k:Nat,k<=i->fl[k]?=some (Dq o d k))/\(∀ k x,k<i->d[k]?=some x->1<=x/\x<=20)/\Ak wr w.heap.size (.slice (some ⟨w.heap.size,0,none⟩) (n+1) (n+1)) fl)) (fun _ _ _ _ iv _=>n-(intOf iv).toNat)
 case atStart=>exact ⟨0,rfl,Av _,bb,bO⟩
 case round=>
  obtain ⟨i,rfl,cd,hb,hG⟩:=hrel;by_cases hc:i<n
  .have bP:(i:Int)<n:=(by omega);have ce:(0:Int)<=(i:Int):=(by omega);obtain ⟨x,hx⟩:=hs.out.get hc;obtain ⟨b2,cE,rfl,aI,a0⟩:=hs.out.cell i x hx;have ck:=(Ag hb.out aI).trans a0;by_cases x1:x<1
   .have p:r=([],1):=(by rw [aZ.out,Ad (Aas hx (by simp [x1]))]);replace ⟨hx,a0,p,aI⟩:=H4 hx a0 p aI;go_wp2_with fail;exact Ao (v:=.tuple #[.slice none 0 0,.int .i64 1]) (by simp [results,Lv,go_sem]) rfl (Gp.bad p.out (by decide) hb.out)
   .by_cases x2:x > 20
    .have p:r=([],1):=(by rw [aZ.out,Ad (Aas hx (by simp;omega))]);replace ⟨hx,a0,p,aI⟩:=H4 hx a0 p aI;go_wp2_with fail;exact Ao (v:=.tuple #[.slice none 0 0,.int .i64 1]) (by simp [results,Lv,go_sem]) rfl (Gp.bad p.out (by decide) hb.out)
    .obtain ⟨fl,bd,aP,aU,aF⟩:=hG.out
     have aV:∀ k:Nat,k<=i->o<=Dq o d k/\Dq o d k<=o+20*(k:Int):=fun k=>by
      induction k with
      | zero=>intro _;simp [Dq]
      | succ k ih=>
       intro hk;have ih:=ih (by omega);obtain ⟨y,hy⟩:=hs.out.get (i:=k) (by omega);have cI:=aU k y (by omega) hy;have e:Dq o d (k+1)=Dq o d k+y:=(by show Dq o d k+(d[k]?).getD 0=_;rw [Gn hy]);rw [e];push_cast;omega
     obtain ⟨f,hf⟩:=Ex (Dq o d i);have bQ:=aV i Ln;have bx:=aP i Ln;rw [<- hf] at bQ bx;have cf:=aF.cell bx;obtain ⟨y,hy⟩:∃ y,fl[i+1]?=some y:=⟨_,Am (by omega)⟩;have cy:=aF.cell hy;have ff:wr.frozen? ⟨w.heap.size,i+1,none⟩=false:=(by obtain ⟨c,hc,_⟩:=C1 aF.row (g:=w.heap.size) rfl;exact Ah hc _);have ch:IntKind.i64.wrap (f+x)=f+x:=F5 (by omega) (by omega)
     have bA:Hid (∃ fl:List Int,fl.length=n+1/\(∀ k:Nat,k<=i+1->fl[k]?=some (Dq o d k))/\(∀ k x,k<i+1->d[k]?=some x->1<=x/\x<=20)/\Ak (wr.setCell ⟨w.heap.size,i+1,none⟩ (.int .i64 (f+x))) w.heap.size (.slice (some ⟨w.heap.size,0,none⟩) (n+1) (n+1)) fl):=Hh ⟨fl.set (i+1) (f+x),by rw [Dg];exact bd,fun k hk=>by
      rw [Do];by_cases e:i+1=k
      .subst e;rw [Ad rfl,Ad (by omega),hf];show _=some (Dq o d i+(d[i]?).getD 0);rw [Gn hx]
      .rw [Ac e]
       exact aP k (by omega),fun k z hk hz=>by
      by_cases e:k=i
      .subst e;rw [hx] at hz;injection hz with hz;omega
      .exact aU k z (by omega) hz,aF.uu (i+1) (f+x)⟩
     have aQ:Below w.heap.size w (wr.setCell ⟨w.heap.size,i+1,none⟩ (.int .i64 (f+x))):=C9 hb.out Ln;replace ⟨hx,a0,aI,bd,aP,aU,aF,aV⟩:=H8 hx a0 aI bd aP aU aF aV;replace ⟨hf,bQ,bx,hy,bA,aQ⟩:=H6 hf bQ bx hy bA aQ;go_upto_region 11 with fail;obtain ⟨W2,a1⟩:=Ex (wr.setCell ⟨w.heap.size,i+1,none⟩ (.int .i64 (f+x)));rw [<- a1] at bA aQ;rw [<- a1];clear a1 cf cy ff ck;go_wp2_with fail;go_roundw
     case rel=>exact ⟨i+1,by go_num,by omega,aQ,bA⟩
     case measure=>simp [intOf];omega
  .have bP:¬ (i:Int)<n:=(by omega);have a2:n=i:=(by omega);subst a2;obtain ⟨fl,bd,aP,aU,aF⟩:=hG.out
   have a3:∀ x,x∈d->1<=x/\x<=20:=fun x hx=>by
    obtain ⟨k,hk⟩:=Dr hx;have:=(Aq.1 hk).1;exact aU k x (by have:=ap.out;omega) hk
   have bR:w.heap.size<wr.heap.size:=(by obtain ⟨c,hc,_⟩:=C1 aF.row (g:=w.heap.size) rfl;exact Ab hc);have a4:=gq.start (n:=n) bR (by omega) aF
   have bB:r=if (after.any fun l=>l.any (F1 o d.length))=true then ([],90)
     else if Ij (after.map (Jr o d))=false then ([],91)
     else (after.map (Fq o d),0):=by
    rw [aZ.out,Ac];intro e;obtain ⟨x,hx,hp⟩:=Kv.1 e;have:=a3 x hx;simp at hp;omega
   have aQ:Below w.heap.size w ((wr.alloc (.cells (Array.replicate n (Value.slice none 0 0)) 31 (0,0))).alloc (.cells (Array.replicate n (Value.slice none 0 0)) 31 (0,0))):=(hb.out.alloc (by omega) _).alloc (by simp;omega) _;clear aZ;replace ⟨bd,aP,aU,aF,a3,bR,a4,bB⟩:=H8 bd aP aU aF a3 bR a4 bB;replace aQ:=Hh aQ;go_upto_region 14 with fail;obtain ⟨W2,a1⟩:=Ex ((wr.alloc (.cells (Array.replicate n (Value.slice none 0 0)) 31 (0,0))).alloc (.cells (Array.replicate n (Value.slice none 0 0)) 31 (0,0)));rw [<- a1] at a4 aQ;rw [<- a1];clear a1;obtain ⟨g2,bS⟩:=Ex (wr.heap.size+1);rw [<- bS] at a4
   try rw [<- bS]
   obtain ⟨g1,bT⟩:=Ex (wr.heap.size);rw [<- bT] at a4
   try rw [<- bT]
   clear bT bS hG hb aF;have aR:Hid (gq w.heap.size g1 g2 n fl (List.replicate n (.slice none 0 0)) (List.replicate n (.slice none 0 0)) (F6 (Jr o d) after 0) (F6 (Fq o d) after 0) W2):=Hh (by have:=a4.out;simpa [F6,s.out] using this)
   have ci:Hid (∀ (k:Nat) (l:List Int),k<0->after[k]?=some l->l.any (F1 o d.length)=false):=Hh fun k l hk=>by omega
   clear a4;go_wp2_with fail;go_loopw [13,14,16,17,18,76,83] (fun _ _ _ _ _ iv _ wr=>∃ (i:Nat) (s1 s2:List Value),iv=.int .i64 i/\i<=n/\Hid (Below w.heap.size w wr)/\Hid (gq w.heap.size g1 g2 n fl s1 s2 (F6 (Jr o d) after i) (F6 (Fq o d) after i) wr)/\Hid (∀ (k:Nat) (l:List Int),k<i->after[k]?=some l->l.any (F1 o d.length)=false)) (fun _ _ _ _ _ iv _ _=>n-(intOf iv).toNat)
   case atStart=>exact ⟨0,_,_,rfl,Av _,aQ,aR,ci⟩
   case round=>
    obtain ⟨i,s1,s2,rfl,cd,hb,hT,hB⟩:=hrel;by_cases hc:i<n
    .have bP:(i:Int)<n:=(by omega);have ce:(0:Int)<=(i:Int):=(by omega);obtain ⟨l,hl⟩:=h.out.get hc;obtain ⟨ba,cF,sl,cJ,rfl,cj,bC,aW,bU,bV⟩:=h.out.cell i l hl;have aS:=aE.out l (Aj hl);obtain ⟨ln,aM⟩:=Ex (l.length);rw [<- aM] at bC aW bU bV aS;have cl:=(Ag hb.out cj).trans bC;obtain ⟨r1,aN⟩:=Ex (F6 (Jr o d) after i);obtain ⟨r2,aO⟩:=Ex (F6 (Fq o d) after i);have q1:r1[i]?=some []:=(by rw [aN,Wo _ _ _ _ (by rw [s.out];exact hc),Ac (by omega)]);have q2:r2[i]?=some []:=(by rw [aO,Wo _ _ _ _ (by rw [s.out];exact hc),Ac (by omega)]);have p1:r1.length=n:=(by rw [aN,Uk,s.out]);have p2:r2.length=n:=(by rw [aO,Uk,s.out]);have n1:F6 (Jr o d) after (i+1)=r1.set i (B9 o d l ln).1:=(by rw [aN,aM];show (F6 (Jr o d) after i).set i (Jr o d ((after[i]?).getD []))=_;rw [Gn hl];rfl);have n2:F6 (Fq o d) after (i+1)=r2.set i (Lib.compact (Ez (B9 o d l ln).2)):=(by rw [aO,aM];show (F6 (Fq o d) after i).set i (Fq o d ((after[i]?).getD []))=_;rw [Gn hl];rfl);rw [<- aN,<- aO] at hT
     have cm:Hid (gq w.heap.size g1 g2 n fl s1 s2 (r1.set i (B9 o d l 0).1) (r2.set i (B9 o d l 0).2) wr):=Hh (by
      show gq w.heap.size g1 g2 n fl s1 s2 (r1.set i []) (r2.set i []) wr;rw [Wq q1,Wq q2]
      exact hT.out)
     have co:Hid (∀ (k:Nat) (x:Int),k<0->l[k]?=some x->F1 o d.length x=false):=Hh fun k x hk=>by omega
     have bD:=Wp o d l (fun x hx=>(a3.out x hx).2);clear hT;replace ⟨hl,bC,aW,bU,bV,aS,aM,aN⟩:=H8 hl bC aW bU bV aS aM aN;replace ⟨aO,q1,q2,p1,p2,n1,n2,bD⟩:=H8 aO q1 q2 p1 p2 n1 n2 bD;go_upto_region 17 with fail;clear cl;go_wp2_with fail;go_loopw [16,17,18,83] (fun _ _ _ jv wr=>∃ (j:Nat) (s1 s2:List Value),jv=.int .i64 j/\j<=ln/\Hid (Below w.heap.size w wr)/\Hid (gq w.heap.size g1 g2 n fl s1 s2 (r1.set i (B9 o d l j).1) (r2.set i (B9 o d l j).2) wr)/\Hid (∀ (k:Nat) (x:Int),k<j->l[k]?=some x->F1 o d.length x=false)) (fun _ _ _ jv _=>ln-(intOf jv).toNat)
     case atStart=>exact ⟨0,_,_,rfl,Av _,hb,cm,co⟩
     case round=>
      obtain ⟨j,s1,s2,rfl,cK,hb,hT,b4⟩:=hrel;by_cases hd:j<ln
      .have bg:(j:Int)<ln:=(by omega);have bE:(0:Int)<=(j:Int):=(by omega);obtain ⟨x,hx⟩:∃ x,l[j]?=some x:=aW.out.get hd;obtain ⟨b3,cG,rfl,ad,aJ⟩:=aW.out.cell j x hx;have cx:=(Ag hb.out ad).trans aJ;obtain ⟨nn,aK⟩:=Ex (-(n:Int));have cL:IntKind.i64.wrap (-(n:Int))=nn:=(by rw [aK];exact F5 (by omega) (by omega));by_cases aD:F1 o d.length x=true
       .have p:r=([],90):=(by rw [bB.out,Ad];exact Kv.2 ⟨l,Aj hl.out,Aas hx aD⟩);have a5:x=0\/o<=x\/x < -(n:Int):=(by have:=ap.out;simp [F1] at aD;omega);clear aD;by_cases e0:x=0
        .subst e0;clear a5;replace ⟨hx,aJ,ad,p,aK⟩:=H5 hx aJ ad p aK;go_wp2_with fail;exact Ao (v:=.tuple #[.slice none 0 0,.int .i64 90]) (by simp [results,Lv,go_sem]) rfl (Gp.bad p.out (by decide) hb.out)
        .by_cases e1:x>=o
         .clear a5;replace ⟨hx,aJ,ad,p,aK⟩:=H5 hx aJ ad p aK;go_wp2_with fail;exact Ao (v:=.tuple #[.slice none 0 0,.int .i64 90]) (by simp [results,Lv,go_sem]) rfl (Gp.bad p.out (by decide) hb.out)
         .have e2:x<nn:=(by omega);clear a5;replace ⟨hx,aJ,ad,p,aK⟩:=H5 hx aJ ad p aK;go_wp2_with fail;exact Ao (v:=.tuple #[.slice none 0 0,.int .i64 90]) (by simp [results,Lv,go_sem]) rfl (Gp.bad p.out (by decide) hb.out)
       .have hg:=ap.out;have e0:¬ x=0:=fun e=>aD (by simp [F1,e]);have e1:¬ x>=o:=fun e=>aD (by simp [F1];omega);have e2:¬ x<nn:=fun e=>aD (by simp [F1];omega);obtain ⟨ra,aB⟩:=Ex ((B9 o d l j).1);obtain ⟨rb,aC⟩:=Ex ((B9 o d l j).2);have aL:=bD.out j;rw [<- aB,<- aC] at aL;rw [<- aB,<- aC] at hT
        have b5:Hid (∀ (k:Nat) (y:Int),k<j+1->l[k]?=some y->F1 o d.length y=false):=Hh fun k y hk hy=>by
         by_cases e:k=j
         .subst e;rw [hx] at hy;injection hy with hy;subst hy;simpa using aD
         .exact b4.out k y (by omega) hy
        have q3:(r1.set i ra)[i]?=some ra:=(by rw [Do,Ad rfl,Ad (by have:=p1.out;omega)]);have q4:(r2.set i rb)[i]?=some rb:=(by rw [Do,Ad rfl,Ad (by have:=p2.out;omega)]);clear aD;by_cases cp:x > 0
        .have a6:B9 o d l (j+1)=(ra,rb++[x]):=(by show Ml o d (B9 o d l j) ((l[j]?).getD 0)=_;rw [Gn hx];unfold Ml;rw [Ad cp,aB,aC]);obtain ⟨be,n3,c3,l3,t1,t2,t3,t4,t5,t6,t7,t8,t9,aG,_⟩:=hT.out.symm.app (i:=i) (by rw [Dg];have:=p2.out;omega) x;rw [q4] at t2;injection t2 with t2;subst t2;have al:n3<=1000000000:=(by have:=aS.out;omega);clear t5;replace ⟨hx,aJ,ad,aK,aB,aC,aL,q3⟩:=H8 hx aJ ad aK aB aC aL q3;replace ⟨q4,a6,t1,t3,t6,t7,t8,t9⟩:=H8 q4 a6 t1 t3 t6 t7 t8 t9;replace ⟨aG,al,hg⟩:=H3 aG al hg;go_upto_region 20 with fail;clear bE bg;go_upto_region 23 with fail;clear cx;have cr:=aS.out;have bg:(j:Int)<ln:=(by omega);have bE:(0:Int)<=(j:Int):=(by omega);go_wp2_with (at_builtin;refine Mk rfl _ _ rfl w.heap.size n3 _ rfl t7.out t3.out ⟨wr.heap.size,0,none⟩ 1 rfl x t8.out al.out t9.out ?_;intro g7 aA w7 h7 ac aH;obtain ⟨k7,f7⟩:=aG.out w7 ac;replace ⟨h7,ac,aH⟩:=H3 h7 ac aH)
         have u:=(hT.out.symm.put t6.out t1.out q4.out ac.out h7.out (fun k hk=>by
          simp [Value.ownBlock] at hk;subst hk;rcases aH.out with e | e
          .exact .inl e
          .exact .inr e)).symm
         have am:Below w.heap.size w (w7.setCell ⟨g2,i,none⟩ (.slice (some ⟨g7,0,none⟩) (n3+1) aA)):=hT.out.symm.below hb.out t6.out t1.out ac.out;rw [Pv] at u;have bW:Hid (gq w.heap.size g1 g2 n fl s1 (s2.set i (.slice (some ⟨g7,0,none⟩) (n3+1) aA)) (r1.set i (B9 o d l (j+1)).1) (r2.set i (B9 o d l (j+1)).2) (w7.setCell ⟨g2,i,none⟩ (.slice (some ⟨g7,0,none⟩) (n3+1) aA))):=Hh (by rw [a6.out];exact u);clear u;replace am:=Hh am;go_roundw
         case rel=>
          exact ⟨j+1,_,_,by go_num,by omega,am,bW,b5⟩
         case measure=>
          simp [intOf];omega
        .obtain ⟨kk,b6⟩:∃ kk:Nat,x=-1-(kk:Int):=⟨(-1-x).toNat,by omega⟩;have cM:kk<n:=(by omega);have cH:(kk:Int)<(n:Int)+1:=(by omega);have ch:IntKind.i64.wrap (-1-x)=(kk:Int):=(by rw [F5 (by omega) (by omega)];omega);obtain ⟨z,hz⟩:∃ z,d[kk]?=some z:=⟨_,Am (by omega)⟩;have bi:=a3.out z (Aj hz);obtain ⟨f,hf⟩:=Ex (Dq o d kk);have bX:Dq o d (kk+1)=f+z:=(by rw [hf];show Dq o d kk+(d[kk]?).getD 0=_;rw [Gn hz]);have aV:=Agl o d a3.out kk;rw [<- hf] at aV;have e4:=aP.out kk (by omega);rw [<- hf] at e4;have e5:=aP.out (kk+1) (by omega);rw [bX] at e5;obtain ⟨f2,bk⟩:=Ex (f+z);rw [<- bk] at e5
         have a6:B9 o d l (j+1)=(ra++[(kk:Int)],rb++I4 f z.toNat):=by
          show Ml o d (B9 o d l j) ((l[j]?).getD 0)=_;rw [Gn hx];unfold Ml;rw [Ac (by omega)];have e:-1-x=(kk:Int):=(by omega);rw [e,Jw,<- hf,Gn hz,aB,aC]
         obtain ⟨be,n3,c3,l3,t1,t2,t3,t4,t5,t6,t7,t8,t9,aG,_⟩:=hT.out.app (i:=i) (by rw [Dg];have:=p1.out;omega) (kk:Int);rw [q3] at t2;injection t2 with t2;subst t2;have al:n3<=1000000000:=(by have:=aS.out;omega);clear t5;replace ⟨hx,aJ,ad,aK,aB,aC,aL,q3⟩:=H8 hx aJ ad aK aB aC aL q3;replace ⟨q4,a6,t1,t3,t6,t7,t8,t9⟩:=H8 q4 a6 t1 t3 t6 t7 t8 t9;replace ⟨aG,al,hg,b6,hz,bi,hf,bX⟩:=H8 aG al hg b6 hz bi hf bX;replace ⟨aV,e4,e5,bk⟩:=H4 aV e4 e5 bk;go_upto_region 20 with fail;clear bE bg;go_upto_region 25 with fail;clear cx;go_upto_region 26 with (at_builtin;refine Mk rfl _ _ rfl w.heap.size n3 _ rfl t7.out t3.out ⟨wr.heap.size,0,none⟩ 1 rfl (kk:Int) t8.out al.out t9.out ?_;intro g7 aA w7 h7 ac aH;obtain ⟨k7,f7⟩:=aG.out w7 ac;replace ⟨h7,ac,aH⟩:=H3 h7 ac aH)
         have u:=hT.out.put t6.out t1.out q3.out ac.out h7.out (fun k hk=>by
          simp [Value.ownBlock] at hk;subst hk;rcases aH.out with e | e
          .exact .inl e
          .exact .inr e)
         have am:Below w.heap.size w (w7.setCell ⟨g1,i,none⟩ (.slice (some ⟨g7,0,none⟩) (n3+1) aA)):=hT.out.below hb.out t6.out t1.out ac.out;rw [Pv] at u;obtain ⟨W3,bY⟩:=Ex (w7.setCell ⟨g1,i,none⟩ (.slice (some ⟨g7,0,none⟩) (n3+1) aA));rw [<- bY] at u am;rw [<- bY]
         have cf:=u.first.cell e4.out
         have bW:Hid (gq w.heap.size g1 g2 n fl (s1.set i (.slice (some ⟨g7,0,none⟩) (n3+1) aA)) s2 (r1.set i (ra++[(kk:Int)])) (r2.set i (rb++I4 f 0)) W3):=Hh (by simpa [I4] using u);clear u bY k7 f7 t4 h7 ac aH hT t1 t3 t6 t7 t8 t9 aG;have cs:Hid (f=f+((0:Nat):Int)):=Hh (by simp);replace am:=Hh am;go_wp2_with fail;clear cf;go_loopw [18] (fun bZ wr=>∃ (vt:Int) (t:Nat) (s2:List Value),bZ=.int .i64 vt/\Hid (vt=f+(t:Int))/\t<=z.toNat/\Hid (Below w.heap.size w wr)/\Hid (gq w.heap.size g1 g2 n fl (s1.set i (.slice (some ⟨g7,0,none⟩) (n3+1) aA)) s2 (r1.set i (ra++[(kk:Int)])) (r2.set i (rb++I4 f t)) wr)) (fun bZ _=>(f2-intOf bZ).toNat)
         case atStart=>exact ⟨f,0,_,rfl,cs,Av _,am,bW⟩
         case round=>
          obtain ⟨vt,t,s2,rfl,bl,cN,hb,hT⟩:=hrel
          have ct:=hT.out.first.cell e5.out
          by_cases hm:t<z.toNat
          .have bf:vt<f2:=(by have:=bl.out;have:=bk.out;omega);have cO:IntKind.i64.wrap (vt+1)=vt+1:=(by have:=bl.out;have:=aV.out;have:=bi.out;exact F5 (by omega) (by omega));have cv:Hid (vt+1=f+((t+1:Nat):Int)):=Hh (by have:=bl.out;push_cast;omega);have q5:(r2.set i (rb++I4 f t))[i]?=some (rb++I4 f t):=(by rw [Do,Ad rfl,Ad (by have:=p2.out;omega)]);obtain ⟨cP,n4,cQ,l4,t1,t2,t3,t4,t5,t6,t7,t8,t9,aG,_⟩:=hT.out.symm.app (i:=i) (by rw [Dg];have:=p2.out;omega) vt;rw [q5] at t2;injection t2 with t2;subst t2;have al:n4<=1000000000:=(by have:=aS.out;have:=aL.out;have:=bi.out;simp [I4] at t3;omega);have bn:Hid ((f2-(vt+1)).toNat<(f2-vt).toNat):=Hh (by omega);clear t5;replace ⟨q5,t1,t3,t6,t7,t8,t9,aG⟩:=H8 q5 t1 t3 t6 t7 t8 t9 aG;replace al:=Hh al;go_upto_region 29 with fail;clear ct;go_wp2_with (at_builtin;refine Mk rfl _ _ rfl w.heap.size n4 _ rfl t7.out t3.out ⟨wr.heap.size,0,none⟩ 1 rfl vt t8.out al.out t9.out ?_;intro g8 b7 w7 h7 ac aH;obtain ⟨k7,f7⟩:=aG.out w7 ac;replace ⟨h7,ac,aH⟩:=H3 h7 ac aH)
           have u:=(hT.out.symm.put t6.out t1.out q5.out ac.out h7.out (fun k hk=>by
          simp [Value.ownBlock] at hk;subst hk;rcases aH.out with e | e
          .exact .inl e
          .exact .inr e)).symm
           have am:Below w.heap.size w (w7.setCell ⟨g2,i,none⟩ (.slice (some ⟨g8,0,none⟩) (n4+1) b7)):=hT.out.symm.below hb.out t6.out t1.out ac.out;rw [Pv] at u;have bM:I4 f t++[vt]=I4 f (t+1):=(by rw [Atc,<- bl.out]);rw [Ku,bM] at u;clear bM;replace ⟨am,u⟩:=H2 am u;go_roundw
           case rel=>exact ⟨vt+1,t+1,_,by go_num,cv,by omega,am,u⟩
           case measure=>simpa [intOf] using bn.out
          .have bf:¬ vt<f2:=(by have:=bl.out;have:=bk.out;have:=bi.out;omega);have b8:t=z.toNat:=(by omega);have cw:Hid (gq w.heap.size g1 g2 n fl (s1.set i (.slice (some ⟨g7,0,none⟩) (n3+1) aA)) s2 (r1.set i (B9 o d l (j+1)).1) (r2.set i (B9 o d l (j+1)).2) wr):=Hh (by rw [a6.out,<- b8];exact hT.out);clear b8 hT;have cr:=aS.out;have bg:(j:Int)<ln:=(by omega);have bE:(0:Int)<=(j:Int):=(by omega);go_wp2_with fail;go_roundw
           case rel=>
            exact ⟨j+1,_,_,by go_num,by omega,hb,cw,b5⟩
           case measure=>
            simp [intOf];omega
      .have bg:¬ (j:Int)<ln:=(by omega);have bF:ln=j:=(by omega);obtain ⟨ra,aB⟩:=Ex ((B9 o d l j).1);obtain ⟨rb,aC⟩:=Ex ((B9 o d l j).2);have aL:=bD.out j;have bG:=n1.out;have bH:=n2.out;rw [bF,<- aB] at bG;rw [bF,<- aC] at bH;rw [<- aB,<- aC] at hT aL;have q4:(r2.set i rb)[i]?=some rb:=(by rw [Do,Ad rfl,Ad (by have:=p2.out;omega)]);obtain ⟨be,n3,c3,l3,t1,t2,t3,t4,t5,_,_,_,_,_,bI⟩:=hT.out.symm.app (i:=i) (by rw [Dg];have:=p2.out;omega) 0;rw [q4] at t2;injection t2 with t2;subst t2;have bJ:rb.length<=1000000:=(by have:=aS.out;omega);have a7:=Ata t5 bJ;have a8:∀ w1,Ak w1 w.heap.size (.slice be n3 c3) (Ez rb)->Calls Tryz.prog 155 #[.slice be n3 c3] w1 fun e w'=>∃ v',e=.returned v'/\Ak w' w.heap.size v' (Lib.compact (Ez rb))/\Mod (fun b=>(Value.slice be n3 c3).ownBlock=some b) w1 w'/\v'.ownBlock=(Value.slice be n3 c3).ownBlock:=fun w1 h1=>Atb h1 (by rw [Wn];exact bJ)
       have cA:Hid (∀ (k:Nat) (l':List Int),k<i+1->after[k]?=some l'->l'.any (F1 o d.length)=false):=Hh fun k l' hk aT=>by
        by_cases e:k=i
        .subst e;rw [hl.out] at aT;injection aT with aT;subst aT;refine List.any_eq_false.2 fun y hy=>?_;obtain ⟨q,hq⟩:=Dr hy;have cR:=(Aq.1 hq).1;rw [b4.out q y (by have:=aM.out;omega) hq];decide
        .exact hB.out k l' (by omega) aT
       replace ⟨aB,aC,bG,bH,aL,q4,t1,t3⟩:=H8 aB aC bG bH aL q4 t1 t3;replace ⟨t5,bI,bJ,a7,a8,bF⟩:=H6 t5 bI bJ a7 a8 bF;go_upto_region 32 with (go_at_call 91;(with_reducible refine (a7.out).mono ?_);rintro e w1 ⟨rfl,b0,bf⟩;obtain ⟨k1,f1⟩:=bI.out w1 bf;replace ⟨b0,bf⟩:=H2 b0 bf);clear t4;go_wp2_with (go_at_call 155;(with_reducible refine (a8.out _ b0.out).mono ?_);rintro e w2 ⟨v2,rfl,bK,bn,b1⟩;obtain ⟨cB,n5,c5,rfl,b9⟩:=bK.len;replace b9:=Hh b9;have bs:=bf.out.trans bn;obtain ⟨k2,f2⟩:=bI.out w2 bs;clear k1 f1;replace ⟨bK,bn,bs,b1⟩:=H4 bK bn bs b1);have u:=(hT.out.symm.put (Below.refl _ _) t1.out q4.out (Mod.grownBy bs.out) bK.out (fun k hk=>.inl (by rw [<- b1.out];exact hk))).symm;have am:Below w.heap.size w (w2.setCell ⟨g2,i,none⟩ (.slice cB n5 c5)):=hT.out.symm.below hb.out (Below.refl _ _) t1.out (Mod.grownBy bs.out);rw [Pv,<- bG.out,<- bH.out] at u;replace ⟨u,am⟩:=H2 u am;go_roundw
       case rel=>exact ⟨i+1,_,_,by go_num,by omega,am,u,cA⟩
       case measure=>simp [intOf];omega
    .have bP:¬ (i:Int)<n:=(by omega);have a2:n=i:=(by omega);have aR:=hT.out;rw [<- a2,<- s.out,Agk,Agk] at aR;have p:r=if Ij (after.map (Jr o d))=false then ([],91) else (after.map (Fq o d),0):=by rw [bB.out,Ac];intro e;obtain ⟨l',aT,hp⟩:=Kv.1 e;obtain ⟨k,hk⟩:=Dr aT;have:=(Aq.1 hk).1;rw [hB.out k l' (by have:=s.out;omega) hk] at hp;cases hp
     have bL:=aR.a.rows (by rw [Ax];have:=s.out;omega) (fun l' aT=>by
      obtain ⟨l0,h0,rfl⟩:=Bd.1 aT;have h1:=aE.out l0 h0;have h2:=(Wp o d l0 (fun x hx=>(a3.out x hx).2) l0.length).1;show (B9 o d l0 l0.length).1.length<=100000
      omega)
     rw [Ax,s.out] at bL;have aX:=As7 (some ⟨g1,0,none⟩) n n (after.map (Jr o d)) wr bL;by_cases a9:Ij (after.map (Jr o d))=true
     .rw [a9] at aX;have an:r=(after.map (Fq o d),0):=(by rw [p,a9,Ac (by decide)]);clear p a9 bL hT;replace ⟨aR,an,aX,a2⟩:=H4 aR an aX a2;go_wp2_with (go_at_call 156;(with_reducible refine (aX.out).mono ?_);rintro e w1 ⟨rfl,aY⟩;replace aY:=Hh aY);refine Ao (v:=.tuple #[.slice (some ⟨g2,0,none⟩) n n,.int .i64 0]) (by simp [results,Lv,go_sem]) rfl ⟨_,by rw [an.out],fun e=>absurd (by rw [an.out]) e,fun _=>⟨g2,s2,?_,?_⟩,hb.out.trans (aY.out.mono hb.out.size)⟩
      .rw [an.out,Ax,s.out]
      .have:=aR.out.b.low aY.out;rw [an.out,Ax];exact this
     .rw [Bool.not_eq_true] at a9;rw [a9] at aX;have an:r=([],91):=(by rw [p,a9,Ad rfl]);clear p a9 bL hT;replace ⟨aR,an,aX,a2⟩:=H4 aR an aX a2;go_wp2_with (go_at_call 156;(with_reducible refine (aX.out).mono ?_);rintro e w1 ⟨rfl,aY⟩;replace aY:=Hh aY);exact Ao (v:=.tuple #[.slice none 0 0,.int .i64 91]) (by simp [results,Lv,go_sem]) rfl (Gp.bad an.out (by decide) (hb.out.trans (aY.out.mono hb.out.size)))
end Go.Proofs.YtimlcnhcjndijaaGreatDoor
