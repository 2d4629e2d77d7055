/- A group of texts: Sx1, Sx2, Sx3, Sx4, Sx5, Sx6, Sx7 -/
namespace Go.Sx

def sm:Nat→(Nat→Rat)→Rat
 | 0,_=>0
 | n+1,f=>sm n f+f n
theorem sm_congr {n:Nat} {f g:Nat→Rat} (h:∀ i,i < n→f i=g i):sm n f=sm n g:=by
 induction n with
 | zero=>rfl
 | succ n ih=>show sm n f+f n=sm n g+g n;rw [ih fun i hi=>h i (by omega),h n (by omega)]
theorem sm_add (n:Nat) (f g:Nat→Rat):sm n (fun i=>f i+g i)=sm n f+sm n g:=by
 induction n with
 | zero=>show (0:Rat)=0+0;grind
 | succ n ih=>show sm n _+(f n+g n)=(sm n f+f n)+(sm n g+g n);rw [ih];grind
theorem sm_mul (n:Nat) (r:Rat) (f:Nat→Rat):sm n (fun i=>r*f i)=r*sm n f:=by
 induction n with
 | zero=>show (0:Rat)=r*0;grind
 | succ n ih=>show sm n _+r*f n=r*(sm n f+f n);rw [ih];grind
theorem sm_zero {n:Nat} {f:Nat→Rat} (h:∀ i,i < n→f i=0):sm n f=0:=by
 induction n with
 | zero=>rfl
 | succ n ih=>show sm n f+f n=0;rw [ih fun i hi=>h i (by omega),h n (by omega)];grind
theorem sm_one {n:Nat} {f:Nat→Rat} (k:Nat) (hk:k < n) (h:∀ i,i < n→i≠k→f i=0):sm n f=f k:=by
 induction n with
 | zero=>omega
 | succ n ih=>
  show sm n f+f n=f k
  by_cases e:k=n
  ·subst e;rw [sm_zero fun i hi=>h i (by omega) (by omega)];grind
  ·rw [ih (by omega) fun i hi=>h i (by omega),h n (by omega) (by omega)];grind
theorem sm_pos {n:Nat} {f:Nat→Rat} (h:∀ i,i < n→0≤f i):0≤sm n f:=by
 induction n with
 | zero=>exact Rat.le_refl
 | succ n ih=>show 0≤sm n f+f n;have:=ih fun i hi=>h i (by omega);have:=h n (by omega);grind
theorem sm_split (n m:Nat) (f:Nat→Rat):sm (n+m) f=sm n f+sm m (fun i=>f (n+i)):=by
 induction m with
 | zero=>show sm n f=sm n f+0;grind
 | succ m ih=>show sm (n+m) f+f (n+m)=sm n f+(sm m (fun i=>f (n+i))+f (n+m));rw [ih];grind
theorem sm_sub (n:Nat) (f g:Nat→Rat):sm n (fun i=>f i - g i)=sm n f - sm n g:=by
 induction n with
 | zero=>show (0:Rat)=0 - 0;grind
 | succ n ih=>show sm n _+(f n - g n)=(sm n f+f n) - (sm n g+g n);rw [ih];grind

theorem pigeon:∀ (n:Nat) (g:Nat→Nat),(∀ i,i≤n→g i < n)→∃ i j,i < j∧j≤n∧g i=g j:=by
 intro n
 induction n with
 | zero=>intro g h;exact absurd (h 0 (Nat.le_refl _)) (by omega)
 | succ n ih=>
  intro g h
  by_cases hc:∃ i,i≤n∧g i=g (n+1)
  ·obtain ⟨i,hi,e⟩:=hc
   exact ⟨i,n+1,by omega,Nat.le_refl _,e⟩
  ·-- swap the value n with g (n + 1)
   have hne:∀ i,i≤n→g i≠g (n+1):=fun i hi e=>hc ⟨i,hi,e⟩
   obtain ⟨i,j,h1,h2,h3⟩:=ih (fun i=>if g i=n then g (n+1) else g i) (by
    intro i hi
    have h4:=h i (by omega)
    have h5:=h (n+1) (Nat.le_refl _)
    have h6:=hne i hi
    show (if g i=n then g (n+1) else g i) < n
    split <;> omega)
   refine ⟨i,j,h1,by omega,?_⟩
   have h6:=hne i (by omega)
   have h7:=hne j (by omega)
   split at h3 <;> split at h3 <;> omega
def code:Nat→(Nat→Bool)→Nat
 | 0,_=>0
 | n+1,b=>2*code n b+(if b n then 1 else 0)
theorem code_lt (n:Nat) (b:Nat→Bool):code n b < 2 ^ n:=by
 induction n with
 | zero=>show 0 < 1;omega
 | succ n ih=>show 2*code n b+(if b n then 1 else 0) < 2 ^ (n+1);rw [Nat.pow_succ];split <;> omega
theorem code_inj {n:Nat} {b c:Nat→Bool} (h:code n b=code n c):∀ i,i < n→b i=c i:=by
 induction n with
 | zero=>intro i hi;omega
 | succ n ih=>
  have h:2*code n b+(if b n then 1 else 0)=2*code n c+(if c n then 1 else 0):=h
  have h1:b n=c n:=by
   cases hb:b n <;> cases hc:c n <;> simp only [hb,hc] at h <;> first | rfl | (simp at h;omega)
  have h2:code n b=code n c:=by rw [h1] at h;split at h <;> omega
  intro i hi
  by_cases e:i=n
  ·subst e;exact h1
  ·exact ih h2 i (by omega)

structure Dic where
 B:Nat→Bool
 A:Nat→Nat→Rat
def Nz (N:Nat) (D:Dic):Prop:=∀ v,v < N→D.B v=true→∀ j,j < N→D.B j=true→D.A v j=0
def Sol (N:Nat) (D:Dic) (x:Nat→Rat):Prop:=∀ v,v < N→D.B v=true→x v=sm N fun j=>D.A v j*x j
def piv (D:Dic) (r k:Nat):Dic:=
 ⟨fun u=>u == k || (D.B u && u != r),
  fun u j=>if u=k then (if j=r then (D.A r k)⁻¹ else if j=k then 0 else -((D.A r k)⁻¹*D.A r j))
   else if j=k then 0 else D.A u j+D.A u k*(if j=r then (D.A r k)⁻¹ else -((D.A r k)⁻¹*D.A r j))⟩
theorem piv_B (D:Dic) (r k u:Nat):(piv D r k).B u=true↔u=k∨(D.B u=true∧u≠r):=by
 show (u == k || (D.B u && u != r))=true↔_
 simp
theorem Nz.piv {N:Nat} {D:Dic} (h:Nz N D) {r k:Nat} (hr:r < N) (_hk:k < N) (br:D.B r=true) (bk:D.B k=false):Nz N (piv D r k):=by
 have hrk:r≠k:=fun e=>by rw [e,bk] at br;cases br
 intro v hv bv j hj bj
 rw [piv_B] at bv bj
 show (if v=k then (if j=r then (D.A r k)⁻¹ else if j=k then 0 else -((D.A r k)⁻¹*D.A r j)) else if j=k then 0 else D.A v j+D.A v k*(if j=r then (D.A r k)⁻¹ else -((D.A r k)⁻¹*D.A r j)))=0
 by_cases e1:v=k
 ·rw [if_pos e1]
  rcases bj with rfl | ⟨bj,nj⟩
  ·rw [if_neg (Ne.symm hrk),if_pos rfl]
  ·rw [if_neg nj]
   split
   ·rfl
   ·rw [h r hr br j hj bj];grind
 ·rw [if_neg e1]
  rcases bj with rfl | ⟨bj,nj⟩
  ·rw [if_pos rfl]
  ·rw [if_neg nj]
   split
   ·rfl
   ·rcases bv with bv | ⟨bv,nv⟩
    ·exact absurd bv e1
    ·rw [h r hr br j hj bj,h v hv bv j hj bj];grind
theorem piv_k {N:Nat} {D:Dic} (h:Nz N D) {r k:Nat} (hr:r < N) (hk:k < N) (br:D.B r=true) (bk:D.B k=false) (hp:D.A r k≠0) (x:Nat→Rat):
  (sm N fun j=>(piv D r k).A k j*x j)=(D.A r k)⁻¹*(x r - sm N fun j=>D.A r j*x j)+x k:=by
 have hrk:r≠k:=fun e=>by rw [e,bk] at br;cases br
 have hi:(D.A r k)⁻¹*D.A r k=1:=Rat.inv_mul_cancel _ hp
 have e1:∀ j,j < N→(piv D r k).A k j*x j=(D.A r k)⁻¹*((if j=r then x r else 0) - D.A r j*x j)+(if j=k then x k else 0):=by
  intro j hj
  show (if k=k then (if j=r then (D.A r k)⁻¹ else if j=k then 0 else -((D.A r k)⁻¹*D.A r j)) else _)*x j=_
  rw [if_pos rfl]
  by_cases e2:j=r
  ·subst e2
   rw [if_pos rfl,if_pos rfl,if_neg hrk,h j hj br j hj br];grind
  ·rw [if_neg e2,if_neg e2]
   by_cases e3:j=k
   ·subst e3;rw [if_pos rfl,if_pos rfl];grind
   ·rw [if_neg e3,if_neg e3];grind
 rw [sm_congr e1,sm_add,sm_mul,sm_sub,sm_one r hr (fun i _ hi=>if_neg hi),if_pos rfl,sm_one k hk (fun i _ hi=>if_neg hi),if_pos rfl]
theorem piv_u {N:Nat} {D:Dic} {r k u:Nat} (hk:k < N) (br:D.B r=true) (bk:D.B k=false) (hu:u≠k) (x:Nat→Rat):
  (sm N fun j=>(piv D r k).A u j*x j)=(sm N fun j=>D.A u j*x j)+D.A u k*((sm N fun j=>(piv D r k).A k j*x j) - x k):=by
 have hrk:r≠k:=fun e=>by rw [e,bk] at br;cases br
 have e1:∀ j,j < N→(piv D r k).A u j*x j=(D.A u j*x j+D.A u k*((piv D r k).A k j*x j))+(if j=k then -(D.A u k*x k) else 0):=by
  intro j hj
  show (if u=k then _ else if j=k then 0 else D.A u j+D.A u k*(if j=r then (D.A r k)⁻¹ else -((D.A r k)⁻¹*D.A r j)))*x j=(D.A u j*x j+D.A u k*((if k=k then (if j=r then (D.A r k)⁻¹ else if j=k then 0 else -((D.A r k)⁻¹*D.A r j)) else _)*x j))+_
  rw [if_neg hu,if_pos rfl]
  by_cases e2:j=k
  ·subst e2;rw [if_pos rfl,if_pos rfl,if_neg (Ne.symm hrk),if_pos rfl];grind
  ·rw [if_neg e2,if_neg e2,if_neg e2];grind
 rw [sm_congr e1,sm_add,sm_add,sm_mul,sm_one k hk (fun i _ hi=>if_neg hi),if_pos rfl];grind
theorem sol_piv {N:Nat} {D:Dic} (h:Nz N D) {r k:Nat} (hr:r < N) (hk:k < N) (br:D.B r=true) (bk:D.B k=false) (hp:D.A r k≠0) (x:Nat→Rat):
  Sol N (piv D r k) x↔Sol N D x:=by
 have hi:(D.A r k)⁻¹*D.A r k=1:=Rat.inv_mul_cancel _ hp
 have hrk:r≠k:=fun e=>by rw [e,bk] at br;cases br
 have hK:=piv_k h hr hk br bk hp x
 constructor
 ·intro hs
  have h1:=hs k hk ((piv_B D r k k).2 (.inl rfl))
  rw [hK] at h1
  have h2:x r=sm N fun j=>D.A r j*x j:=by
   have h3:D.A r k*((D.A r k)⁻¹*(x r - sm N fun j=>D.A r j*x j))=0:=by grind
   grind
  intro v hv bv
  by_cases e:v=r
  ·subst e;exact h2
  ·have hvk:v≠k:=fun e=>by rw [e,bk] at bv;cases bv
   have h4:=hs v hv ((piv_B D r k v).2 (.inr ⟨bv,e⟩))
   rw [piv_u hk br bk hvk,hK] at h4
   rw [h4];grind
 ·intro hs
  have h2:=hs r hr br
  have h5:(sm N fun j=>(piv D r k).A k j*x j)=x k:=by rw [hK,← h2];grind
  intro v hv bv
  rcases (piv_B D r k v).1 bv with rfl | ⟨bv,nv⟩
  ·exact h5.symm
  ·have hvk:v≠k:=fun e=>by rw [e,bk] at bv;cases bv
   rw [piv_u hk br bk hvk,h5,hs v hv bv];grind
def fill (N:Nat) (D:Dic) (y:Nat→Rat) (v:Nat):Rat:=if D.B v=true then sm N fun j=>D.A v j*y j else y v
theorem fill_sol {N:Nat} {D:Dic} (h:Nz N D) (y:Nat→Rat):Sol N D (fill N D y):=by
 intro v hv bv
 show (if D.B v=true then sm N fun j=>D.A v j*y j else y v)=_
 rw [if_pos bv]
 refine sm_congr fun j hj=>?_
 unfold fill
 by_cases bj:D.B j=true
 ·rw [h v hv bv j hj bj];grind
 ·rw [if_neg bj]
theorem fill_non {N:Nat} {D:Dic} {y:Nat→Rat} {v:Nat} (h:D.B v=false):fill N D y v=y v:=if_neg (by rw [h];decide)
theorem fill_bas {N:Nat} {D:Dic} {y:Nat→Rat} {v:Nat} (h:D.B v=true):fill N D y v=sm N fun j=>D.A v j*y j:=if_pos h
theorem same_dic {N:Nat} {D E:Dic} (hD:Nz N D) (hE:Nz N E) (hB:∀ v,v < N→D.B v=E.B v) (hS:∀ x,Sol N D x→Sol N E x) {v:Nat} (hv:v < N) (bv:D.B v=true) {j:Nat} (hj:j < N):D.A v j=E.A v j:=by
 by_cases bj:D.B j=true
 ·rw [hD v hv bv j hj bj,hE v hv (by rw [← hB v hv];exact bv) j hj (by rw [← hB j hj];exact bj)]
 ·have bj':D.B j=false:=by simpa using bj
  have h1:=hS _ (fill_sol hD (fun i=>if i=j then 1 else 0)) v hv (by rw [← hB v hv];exact bv)
  rw [fill_bas bv] at h1
  rw [sm_one j hj (fun i _ hi=>by rw [if_neg hi];grind),if_pos rfl] at h1
  rw [sm_one j hj (fun i hi' hi=>by
   by_cases bi:D.B i=true
   ·rw [hE v hv (by rw [← hB v hv];exact bv) i hi' (by rw [← hB i hi'];exact bi)];grind
   ·rw [fill_non (by simpa using bi),if_neg hi];grind),fill_non bj',if_pos rfl] at h1
  grind

def Ps (a b:Rat):Prop:=0 < a∨(a=0∧0 < b)
def Nn (a b:Rat):Prop:=0 < a∨(a=0∧0≤b)
theorem Ps.nn {a b:Rat} (h:Ps a b):Nn a b:=by unfold Ps Nn at *;grind
theorem Nn.zero:Nn 0 0:=.inr ⟨rfl,Rat.le_refl⟩
theorem Nn.add {a b c d:Rat} (h:Nn a b) (k:Nn c d):Nn (a+c) (b+d):=by unfold Nn at *;grind
theorem Ps.add_left {a b c d:Rat} (h:Ps a b) (k:Nn c d):Ps (a+c) (b+d):=by unfold Ps Nn at *;grind
theorem Ps.add_right {a b c d:Rat} (h:Nn a b) (k:Ps c d):Ps (a+c) (b+d):=by unfold Ps Nn at *;grind
theorem Ps.smul {r a b:Rat} (hr:0 < r) (h:Ps a b):Ps (r*a) (r*b):=by
 rcases h with h | ⟨h1,h2⟩
 ·exact .inl (Rat.mul_pos hr h)
 ·exact .inr ⟨by rw [h1];grind,Rat.mul_pos hr h2⟩
theorem Nn.smul {r a b:Rat} (hr:0 < r) (h:Nn a b):Nn (r*a) (r*b):=by
 rcases h with h | ⟨h1,h2⟩
 ·exact .inl (Rat.mul_pos hr h)
 ·exact .inr ⟨by rw [h1];grind,Rat.mul_nonneg (by grind) h2⟩
theorem Ps.neg_smul {r a b:Rat} (hr:r < 0) (h:Ps (-a) (-b)):Ps (r*a) (r*b):=by
 have:=Ps.smul (r := -r) (by grind) h
 rw [show r*a = -r * -a by grind,show r*b = -r * -b by grind];exact this
theorem Nn.neg_smul {r a b:Rat} (hr:r < 0) (h:Nn (-a) (-b)):Nn (r*a) (r*b):=by
 have:=Nn.smul (r := -r) (by grind) h
 rw [show r*a = -r * -a by grind,show r*b = -r * -b by grind];exact this
theorem Ps.not {a b:Rat} (h:¬ Ps a b):Nn (-a) (-b):=by unfold Ps Nn at *;grind
theorem sm_nn {n:Nat} {f g:Nat→Rat} (h:∀ i,i < n→Nn (f i) (g i)):Nn (sm n f) (sm n g):=by
 induction n with
 | zero=>exact Nn.zero
 | succ n ih=>exact (ih fun i hi=>h i (by omega)).add (h n (by omega))
theorem sm_ps {n:Nat} {f g:Nat→Rat} (h:∀ i,i < n→Nn (f i) (g i)) {q:Nat} (hq:q < n) (hs:Ps (f q) (g q)):Ps (sm n f) (sm n g):=by
 induction n with
 | zero=>omega
 | succ n ih=>
  by_cases e:q=n
  ·subst e;exact (sm_nn fun i hi=>h i (by omega)).elim (fun h1=>Ps.add_right (.inl h1) hs) (fun h1=>Ps.add_right (.inr h1) hs)
  ·exact Ps.add_left (ih (fun i hi=>h i (by omega)) (by omega)) (h n (by omega))
theorem row_ps {N:Nat} {D:Dic} {a1 b1 a2 b2:Nat→Rat} (ha1:Sol N D a1) (hb1:Sol N D b1) (ha2:Sol N D a2) (hb2:Sol N D b2) {v:Nat} (hv:v < N) (bv:D.B v=true)
  (h:∀ j,j < N→Nn (D.A v j*(a1 j - a2 j)) (D.A v j*(b1 j - b2 j))) {q:Nat} (hq:q < N) (hs:Ps (D.A v q*(a1 q - a2 q)) (D.A v q*(b1 q - b2 q))):Ps (a1 v - a2 v) (b1 v - b2 v):=by
 have e1:a1 v - a2 v=sm N fun j=>D.A v j*(a1 j - a2 j):=by
  rw [ha1 v hv bv,ha2 v hv bv,← sm_sub];exact sm_congr fun i _=>by grind
 have e2:b1 v - b2 v=sm N fun j=>D.A v j*(b1 j - b2 j):=by
  rw [hb1 v hv bv,hb2 v hv bv,← sm_sub];exact sm_congr fun i _=>by grind
 rw [e1,e2]
 exact sm_ps h hq hs

structure Stand where
 D:Dic
 a:Nat→Rat
 b:Nat→Rat
structure Bnd where
 N:Nat
 n0:Nat
 hA:Nat→Rat
 hB:Nat→Rat
 eq:Nat→Bool
def Stand.Ok (P:Bnd) (s:Stand):Prop:=Nz P.N s.D∧Sol P.N s.D s.a∧Sol P.N s.D s.b∧∀ v,P.n0≤v→v < P.N→s.D.B v=false→s.a v=P.hA v∧s.b v=P.hB v
def Over (P:Bnd) (s:Stand) (v:Nat):Prop:=Ps (s.a v - P.hA v) (s.b v - P.hB v)
def Under (P:Bnd) (s:Stand) (v:Nat):Prop:=P.eq v=true∧Ps (P.hA v - s.a v) (P.hB v - s.b v)
def CanH (P:Bnd) (s:Stand) (v:Nat) (great:Bool) (k:Nat):Prop:=
 s.D.A v k≠0∧(k < P.n0∨(P.eq k=false∧(great=true↔0 < s.D.A v k)))
structure Moves (P:Bnd) (s s':Stand) (r k:Nat) (great:Bool):Prop where
 hr:P.n0≤r
 hrN:r < P.N
 br:s.D.B r=true
 over:if great=true then Over P s r else Under P s r
 least:∀ u,P.n0≤u→u < r→s.D.B u=true→¬ Over P s u∧¬ Under P s u
 hk:k < P.N
 bk:s.D.B k=false
 can:CanH P s r great k
 first:∀ j,j < k→s.D.B j=false→¬ CanH P s r great j
 next:s'.D=piv s.D r k

theorem no_cycle (P:Bnd) (S:Nat→Stand) (r k:Nat→Nat) (g:Nat→Bool) (n:Nat) (hOk:∀ i,i≤n→(S i).Ok P) (hSol:∀ i j,i≤n→j≤n→∀ x,Sol P.N (S i).D x→Sol P.N (S j).D x)
  (hM:∀ i,i < n→Moves P (S i) (S (i+1)) (r i) (k i) (g i)) (s t:Nat) (hst:s < t) (htn:t≤n) (hB:∀ v,v < P.N→(S s).D.B v=(S t).D.B v):False:=by
 have hBs:∀ i,i < n→∀ u,((S (i+1)).D.B u=true↔u=k i∨((S i).D.B u=true∧u≠r i)):=fun i hi u=>by rw [(hM i hi).next,piv_B]
 have hEnt:∀ v i j,s≤i→i≤j→j≤t→(S i).D.B v=false→(S j).D.B v=true→∃ l,i≤l∧l < j∧k l=v:=by
  intro v i j hsi hij hjt h0 h1
  induction j with
  | zero=>
       obtain rfl:i=0:=by omega
       rw [h0] at h1;cases h1
  | succ j ih=>
   by_cases e:i=j+1
   ·subst e;rw [h0] at h1;cases h1
   ·by_cases hb:(S j).D.B v=true
    ·obtain ⟨l,h2,h3,h4⟩:=ih (by omega) (by omega) hb
     exact ⟨l,h2,by omega,h4⟩
    ·rcases (hBs j (by omega) v).1 h1 with e | ⟨h2,_⟩
     ·exact ⟨j,by omega,by omega,e.symm⟩
     ·exact absurd h2 hb
 have hLea:∀ v i j,s≤i→i≤j→j≤t→(S i).D.B v=true→(S j).D.B v=false→∃ l,i≤l∧l < j∧r l=v:=by
  intro v i j hsi hij hjt h0 h1
  induction j with
  | zero=>
       obtain rfl:i=0:=by omega
       rw [h0] at h1;cases h1
  | succ j ih=>
   by_cases e:i=j+1
   ·subst e;rw [h0] at h1;cases h1
   ·by_cases hb:(S j).D.B v=false
    ·obtain ⟨l,h2,h3,h4⟩:=ih (by omega) (by omega) hb
     exact ⟨l,h2,by omega,h4⟩
    ·have hb':(S j).D.B v=true:=by simpa using hb
     refine ⟨j,by omega,by omega,Classical.byContradiction fun hne=>?_⟩
     have:=(hBs j (by omega) v).2 (.inr ⟨hb',fun e=>hne e.symm⟩)
     rw [h1] at this;cases this
 have hLE:∀ i,s≤i→i < t→∃ l,s≤l∧l < t∧k l=r i:=by
  intro i h1 h2
  have m:=hM i (by omega)
  have h3:(S (i+1)).D.B (r i)=false:=by
   rw [← Bool.not_eq_true,hBs i (by omega)]
   rintro (e | ⟨_,e⟩)
   ·have h5:=m.br;rw [e,m.bk] at h5;cases h5
   ·exact e rfl
  by_cases h4:(S t).D.B (r i)=true
  ·obtain ⟨l,a1,a2,a3⟩:=hEnt (r i) (i+1) t (by omega) (by omega) (Nat.le_refl _) h3 h4
   exact ⟨l,by omega,a2,a3⟩
  ·have h5:(S s).D.B (r i)=false:=by rw [hB _ m.hrN];simpa using h4
   obtain ⟨l,a1,a2,a3⟩:=hEnt (r i) s i (Nat.le_refl _) h1 (by omega) h5 m.br
   exact ⟨l,a1,by omega,a3⟩
 have hEL:∀ i,s≤i→i < t→∃ l,s≤l∧l < t∧r l=k i:=by
  intro i h1 h2
  have m:=hM i (by omega)
  have h3:(S (i+1)).D.B (k i)=true:=(hBs i (by omega) _).2 (.inl rfl)
  by_cases h4:(S t).D.B (k i)=true
  ·have h5:(S s).D.B (k i)=true:=by rw [hB _ m.hk];exact h4
   obtain ⟨l,a1,a2,a3⟩:=hLea (k i) s i (Nat.le_refl _) h1 (by omega) h5 m.bk
   exact ⟨l,a1,by omega,a3⟩
  ·obtain ⟨l,a1,a2,a3⟩:=hLea (k i) (i+1) t (by omega) (by omega) (Nat.le_refl _) h3 (by simpa using h4)
   exact ⟨l,by omega,a2,a3⟩
 have hmax:∀ m,s < m→m≤t→∃ i,s≤i∧i < m∧∀ j,s≤j→j < m→k j≤k i:=by
  intro m
  induction m with
  | zero=>intro h;omega
  | succ m ih=>
   intro h1 h2
   by_cases e:s=m
   ·subst e;refine ⟨s,Nat.le_refl _,by omega,fun j a1 a2=>?_⟩
    have e:j=s:=by omega
    rw [e];exact Nat.le_refl _
   ·obtain ⟨i,a1,a2,a3⟩:=ih (by omega) (by omega)
    by_cases hk:k i≤k m
    ·exact ⟨m,by omega,by omega,fun j b1 b2=>by
      by_cases e:j=m
      ·subst e;exact Nat.le_refl _
      ·exact Nat.le_trans (a3 j b1 (by omega)) hk⟩
    ·exact ⟨i,a1,by omega,fun j b1 b2=>by
      by_cases e:j=m
      ·subst e;omega
      ·exact a3 j b1 (by omega)⟩
 obtain ⟨i2,hs2,ht2,hmx⟩:=hmax t hst (Nat.le_refl _)
 obtain ⟨i1,hs1,ht1,hq⟩:=hEL i2 hs2 ht2
 have M2:=hM i2 (by omega)
 have M1:=hM i1 (by omega)
 rw [hq] at M1
 have hstay:∀ j,k i2 < j→j < P.N→(S i2).D.B j=false→(S i1).D.B j=false:=by
  intro j h1 _ h2
  refine Classical.byContradiction fun h3=>?_
  have h3:(S i1).D.B j=true:=by simpa using h3
  have key:∃ l,s≤l∧l < t∧k l=j:=by
   by_cases h4:i1≤i2
   ·obtain ⟨l,a1,a2,a3⟩:=hLea j i1 i2 hs1 h4 (by omega) h3 h2
    obtain ⟨l',b1,b2,b3⟩:=hLE l (by omega) (by omega)
    exact ⟨l',b1,b2,by rw [b3,a3]⟩
   ·obtain ⟨l,a1,a2,a3⟩:=hEnt j i2 i1 hs2 (by omega) (by omega) h2 h3
    exact ⟨l,by omega,by omega,a3⟩
  obtain ⟨l,a1,a2,a3⟩:=key
  have:=hmx l a1 a2
  omega
 obtain ⟨nz2,sa2,sb2,non2⟩:=hOk i2 (by omega)
 obtain ⟨nz1,sa1,sb1,non1⟩:=hOk i1 (by omega)
 have sa12:=hSol i1 i2 (by omega) (by omega) _ sa1
 have sb12:=hSol i1 i2 (by omega) (by omega) _ sb1
 have hq0:P.n0≤k i2:=M1.hr
 have hqE:P.eq (k i2)=false∧(g i2=true↔0 < (S i2).D.A (r i2) (k i2)):=M2.can.2.resolve_left (by omega)
 have hqO:Over P (S i1) (k i2):=by
  have:=M1.over
  split at this
  ·exact this
  ·exact absurd this.1 (by rw [hqE.1];decide)
 have hlow:∀ j,P.n0≤j→j < k i2→j < P.N→(¬ Over P (S i1) j∧¬ Under P (S i1) j):=by
  intro j h1 h2 h3
  by_cases h4:(S i1).D.B j=true
  ·exact M1.least j h1 h2 h4
  ·obtain ⟨e1,e2⟩:=non1 j h1 h3 (by simpa using h4)
   unfold Over Under Ps
   rw [e1,e2]
   constructor
   ·rintro (h | ⟨_,h⟩) <;> grind
   ·rintro ⟨_,h | ⟨_,h⟩⟩ <;> grind
 have hv:Ps ((if g i2=true then 1 else -1)*((S i1).a (r i2) - (S i2).a (r i2))) ((if g i2=true then 1 else -1)*((S i1).b (r i2) - (S i2).b (r i2))):=by
  have term:∀ j,j < P.N→j≠k i2→(S i2).D.A (r i2) j*((S i1).a j - (S i2).a j)=0∧(S i2).D.A (r i2) j*((S i1).b j - (S i2).b j)=0∨
    ((g i2=true↔¬ 0 < (S i2).D.A (r i2) j)∧(S i2).D.A (r i2) j≠0∧Nn ((S i2).a j - (S i1).a j) ((S i2).b j - (S i1).b j)):=by
   intro j hj hne
   by_cases hb:(S i2).D.B j=true
   ·left;rw [nz2 _ M2.hrN M2.br j hj hb];grind
   ·have hb:(S i2).D.B j=false:=by simpa using hb
    by_cases ha:(S i2).D.A (r i2) j=0
    ·left;rw [ha];grind
    ·by_cases hjq:j < k i2
     ·have hc:=M2.first j hjq hb
      unfold CanH at hc
      have h0:P.n0≤j:=Classical.byContradiction fun h=>hc ⟨ha,.inl (by omega)⟩
      obtain ⟨n1,n2⟩:=non2 j h0 hj hb
      obtain ⟨l1,l2⟩:=hlow j h0 hjq hj
      by_cases he:P.eq j=true
      ·left
       have l3:¬ Ps (P.hA j - (S i1).a j) (P.hB j - (S i1).b j):=fun h=>l2 ⟨he,h⟩
       unfold Over at l1
       have e1:(S i1).a j=P.hA j∧(S i1).b j=P.hB j:=by unfold Ps at *;grind
       rw [n1,n2,e1.1,e1.2];grind
      ·right
       refine ⟨?_,ha,?_⟩
       ·have:¬ (g i2=true↔0 < (S i2).D.A (r i2) j):=fun h=>hc ⟨ha,.inr ⟨by simpa using he,h⟩⟩
        by_cases hg:g i2=true <;> simp [hg] at this ⊢ <;> exact this
       ·have:=Ps.not l1
        rw [n1,n2]
        rw [show P.hA j - (S i1).a j = -((S i1).a j - P.hA j) by grind,show P.hB j - (S i1).b j = -((S i1).b j - P.hB j) by grind];exact this
     ·left
      have h5:=hstay j (by omega) hj hb
      obtain ⟨n1,n2⟩:=non2 j (by omega) hj hb
      obtain ⟨n3,n4⟩:=non1 j (by omega) hj h5
      rw [n1,n2,n3,n4];grind
  obtain ⟨q1,q2⟩:=non2 (k i2) hq0 M2.hk M2.bk
  have hqo:Ps ((S i1).a (k i2) - (S i2).a (k i2)) ((S i1).b (k i2) - (S i2).b (k i2)):=by rw [q1,q2];exact hqO
  by_cases hg:g i2=true
  ·rw [if_pos hg]
   have hp:0 < (S i2).D.A (r i2) (k i2):=hqE.2.1 hg
   have:=row_ps sa12 sb12 sa2 sb2 M2.hrN M2.br (fun j hj=>by
    by_cases e:j=k i2
    ·subst e;exact (Ps.smul hp hqo).nn
    ·rcases term j hj e with ⟨e1,e2⟩ | ⟨e1,e2,e3⟩
     ·rw [e1,e2];exact Nn.zero
     ·have h6:=e1.1 hg
      refine Nn.neg_smul (by grind) ?_
      rw [show -((S i1).a j - (S i2).a j)=(S i2).a j - (S i1).a j by grind,show -((S i1).b j - (S i2).b j)=(S i2).b j - (S i1).b j by grind];exact e3) M2.hk (Ps.smul hp hqo)
   rw [Rat.one_mul,Rat.one_mul];exact this
  ·rw [if_neg hg]
   have hp:(S i2).D.A (r i2) (k i2) < 0:=by
    have h7:¬ 0 < (S i2).D.A (r i2) (k i2):=fun h=>hg (hqE.2.2 h)
    have:=M2.can.1
    grind
   have hqn:Ps (-((S i2).a (k i2) - (S i1).a (k i2))) (-((S i2).b (k i2) - (S i1).b (k i2))):=by
    rw [show -((S i2).a (k i2) - (S i1).a (k i2))=(S i1).a (k i2) - (S i2).a (k i2) by grind,show -((S i2).b (k i2) - (S i1).b (k i2))=(S i1).b (k i2) - (S i2).b (k i2) by grind];exact hqo
   have:=row_ps sa2 sb2 sa12 sb12 M2.hrN M2.br (fun j hj=>by
    by_cases e:j=k i2
    ·subst e;exact (Ps.neg_smul hp hqn).nn
    ·rcases term j hj e with ⟨e1,e2⟩ | ⟨e1,e2,e3⟩
     ·rw [show (S i2).D.A (r i2) j*((S i2).a j - (S i1).a j) = -((S i2).D.A (r i2) j*((S i1).a j - (S i2).a j)) by grind,show (S i2).D.A (r i2) j*((S i2).b j - (S i1).b j) = -((S i2).D.A (r i2) j*((S i1).b j - (S i2).b j)) by grind,e1,e2];exact .inr ⟨by grind,by grind⟩
     ·have h6:0 < (S i2).D.A (r i2) j:=Classical.byContradiction fun h=>hg (e1.2 h)
      exact Nn.smul h6 e3) M2.hk (Ps.neg_smul hp hqn)
   rw [show (-1:Rat)*((S i1).a (r i2) - (S i2).a (r i2))=(S i2).a (r i2) - (S i1).a (r i2) by grind,show (-1:Rat)*((S i1).b (r i2) - (S i2).b (r i2))=(S i2).b (r i2) - (S i1).b (r i2) by grind];exact this
 have hbr:Over P (S i1) (r i2)∨Under P (S i1) (r i2):=by
  have ho:=M2.over
  by_cases hg:g i2=true
  ·rw [if_pos hg] at ho hv
   left
   have:=Ps.add_left (Ps.smul (r:=1) (by decide) ho) hv.nn
   unfold Over
   rw [show (S i1).a (r i2) - P.hA (r i2)=1*((S i2).a (r i2) - P.hA (r i2))+1*((S i1).a (r i2) - (S i2).a (r i2)) by grind,show (S i1).b (r i2) - P.hB (r i2)=1*((S i2).b (r i2) - P.hB (r i2))+1*((S i1).b (r i2) - (S i2).b (r i2)) by grind];exact this
  ·rw [if_neg hg] at ho hv
   right
   refine ⟨ho.1,?_⟩
   have:=Ps.add_left ho.2 hv.nn
   rw [show P.hA (r i2) - (S i1).a (r i2)=(P.hA (r i2) - (S i2).a (r i2)) + -1*((S i1).a (r i2) - (S i2).a (r i2)) by grind,show P.hB (r i2) - (S i1).b (r i2)=(P.hB (r i2) - (S i2).b (r i2)) + -1*((S i1).b (r i2) - (S i2).b (r i2)) by grind];exact this
 obtain ⟨l,a1,a2,a3⟩:=hLE i2 hs2 ht2
 have hle:=hmx l a1 a2
 rw [a3] at hle
 have hneq:r i2≠k i2:=fun e=>by have h8:=M2.br;rw [e,M2.bk] at h8;cases h8
 have:=hlow (r i2) M2.hr (by omega) M2.hrN
 exact hbr.elim this.1 this.2
theorem few_steps (P:Bnd) (S:Nat→Stand) (r k:Nat→Nat) (g:Nat→Bool) (n:Nat) (hOk:∀ i,i≤n→(S i).Ok P) (hSol:∀ i j,i≤n→j≤n→∀ x,Sol P.N (S i).D x→Sol P.N (S j).D x)
  (hM:∀ i,i < n→Moves P (S i) (S (i+1)) (r i) (k i) (g i)):n < 2 ^ P.N:=by
 refine Classical.byContradiction fun h=>?_
 obtain ⟨i,j,h1,h2,h3⟩:=pigeon (2 ^ P.N) (fun i=>code P.N (S i).D.B) (fun i _=>code_lt _ _)
 exact no_cycle P S r k g n hOk hSol hM i j h1 (by omega) (code_inj h3)

def D0 (n0:Nat) (c:Nat→Nat→Rat):Dic:=⟨fun v=>decide (n0≤v),fun v j=>if j < n0 then c (v - n0) j else 0⟩
theorem D0_nz (N n0:Nat) (c:Nat→Nat→Rat):Nz N (D0 n0 c):=by
 intro v _ _ j _ bj
 have:n0≤j:=by simpa [D0] using bj
 exact if_neg (by omega)
theorem D0_sol {m n0:Nat} {c:Nat→Nat→Rat} {x:Nat→Rat}:Sol (n0+m) (D0 n0 c) x↔∀ i,i < m→x (n0+i)=sm n0 fun j=>c i j*x j:=by
 have key:∀ i,(sm (n0+m) fun j=>(D0 n0 c).A (n0+i) j*x j)=sm n0 fun j=>c i j*x j:=by
  intro i
  rw [sm_split,sm_zero (n:=m) fun k _=>?_,sm_congr (n:=n0) (g:=fun j=>c i j*x j) fun j hj=>?_]
  ·grind
  ·show (if j < n0 then c (n0+i - n0) j else 0)*x j=_
   rw [if_pos hj,show n0+i - n0=i by omega]
  ·show (if n0+k < n0 then _ else 0)*x (n0+k)=0
   rw [if_neg (by omega)];grind
 constructor
 ·intro h i hi
  rw [← key]
  exact h (n0+i) (by omega) (by simp [D0])
 ·intro h v hv bv
  have h0:n0≤v:=by simpa [D0] using bv
  have:=h (v - n0) (by omega)
  rw [← key,show n0+(v - n0)=v by omega] at this
  exact this

theorem answer_point {m n0:Nat} {c:Nat→Nat→Rat} {P:Bnd} {s:Stand} (hN:P.N=n0+m) (hn:P.n0=n0) (hs:s.Ok P) (hD:∀ x,Sol P.N s.D x→Sol P.N (D0 n0 c) x)
  (hno:∀ u,P.n0≤u→u < P.N→s.D.B u=true→¬ Over P s u∧¬ Under P s u) {e:Rat} (he:∀ i,i < m→s.a (n0+i)+e*s.b (n0+i)≤P.hA (n0+i)+e*P.hB (n0+i)) (i:Nat) (hi:i < m):
  (sm n0 fun j=>c i j*(s.a j+e*s.b j)) - P.hA (n0+i)≤e*P.hB (n0+i)∧(P.eq (n0+i)=true→(sm n0 fun j=>c i j*(s.a j+e*s.b j)) - P.hA (n0+i)=e*P.hB (n0+i)):=by
 have h1:=D0_sol.1 (hN ▸ hD _ hs.2.1) i hi
 have h2:=D0_sol.1 (hN ▸ hD _ hs.2.2.1) i hi
 have h3:(sm n0 fun j=>c i j*(s.a j+e*s.b j))=s.a (n0+i)+e*s.b (n0+i):=by
  rw [h1,h2,← sm_mul,← sm_add];exact sm_congr fun j _=>by grind
 rw [h3]
 have h4:=he i hi
 refine ⟨by grind,fun h5=>?_⟩
 by_cases hb:s.D.B (n0+i)=true
 ·obtain ⟨h6,h7⟩:=hno (n0+i) (by omega) (by omega) hb
  have h7:¬ Ps (P.hA (n0+i) - s.a (n0+i)) (P.hB (n0+i) - s.b (n0+i)):=fun h=>h7 ⟨h5,h⟩
  unfold Over at h6
  have h8:s.a (n0+i)=P.hA (n0+i)∧s.b (n0+i)=P.hB (n0+i):=by unfold Ps at *;grind
  rw [h8.1,h8.2];grind
 ·obtain ⟨h6,h7⟩:=hs.2.2.2 (n0+i) (by omega) (by omega) (by simpa using hb)
  rw [h6,h7];grind

def tim (n0:Nat) (s:Stand) (v:Nat) (great:Bool) (i:Nat):Rat:=(if great=true then 1 else -1)*((if n0+i=v then 1 else 0) - s.D.A v (n0+i))
theorem answer_times {m n0:Nat} {c:Nat→Nat→Rat} {P:Bnd} {s:Stand} (hN:P.N=n0+m) (hn:P.n0=n0) (hs:s.Ok P) (hD:∀ x,Sol P.N (D0 n0 c) x→Sol P.N s.D x)
  {v:Nat} {g:Bool} (h0:n0≤v) (hv:v < P.N) (bv:s.D.B v=true) (hov:if g=true then Over P s v else Under P s v) (hno:∀ k,k < P.N→s.D.B k=false→¬ CanH P s v g k):
  (∀ j,j < n0→(sm m fun i=>tim n0 s v g i*c i j)=0)∧(∀ i,i < m→P.eq (n0+i)=false→0≤tim n0 s v g i)∧
  Ps (-(sm m fun i=>tim n0 s v g i*P.hA (n0+i))) (-(sm m fun i=>tim n0 s v g i*P.hB (n0+i))):=by
 have hA0:∀ k,k < n0→s.D.A v k=0:=by
  intro k hk
  by_cases hb:s.D.B k=true
  ·exact hs.1 v hv bv k (by omega) hb
  ·exact Classical.byContradiction fun h=>hno k (by omega) (by simpa using hb) ⟨h,.inl (by omega)⟩
 have key:∀ x:Nat→Rat,(x v=sm P.N fun j=>s.D.A v j*x j)→∀ y:Nat→Rat,(∀ i,i < m→s.D.A v (n0+i)*y i=s.D.A v (n0+i)*x (n0+i))→(sm m fun i=>tim n0 s v g i*y i)=(if g=true then 1 else -1)*(y (v - n0) - x v):=by
  intro x hx y hy
  have e1:∀ i,i < m→tim n0 s v g i*y i=(if g=true then 1 else -1)*((if i=v - n0 then y (v - n0) else 0) - s.D.A v (n0+i)*x (n0+i)):=by
   intro i hi
   unfold tim
   rw [← hy i hi]
   by_cases e:i=v - n0
   ·subst e;rw [if_pos (show n0+(v - n0)=v by omega),if_pos rfl];grind
   ·rw [if_neg (show ¬ n0+i=v by omega),if_neg e];grind
  rw [sm_congr e1,sm_mul,sm_sub,sm_one (v - n0) (by omega) (fun i _ hi=>if_neg hi),if_pos rfl,hx,hN,sm_split,sm_zero (n:=n0) fun j hj=>by rw [hA0 j hj];grind]
  grind
 refine ⟨fun j hj=>?_,fun i hi he=>?_,?_⟩
 ·have h1:=hD _ (fill_sol (D0_nz P.N n0 c) (fun k=>if k=j then 1 else 0))
  have h2:∀ i,i < m→fill P.N (D0 n0 c) (fun k=>if k=j then 1 else 0) (n0+i)=c i j:=by
   intro i hi
   rw [fill_bas (by simp [D0]),sm_one j (by omega) (fun k _ hk=>by rw [if_neg hk];grind),if_pos rfl]
   show (if j < n0 then c (n0+i - n0) j else 0)*1=_
   rw [if_pos hj,show n0+i - n0=i by omega];grind
  rw [key _ (h1 v hv bv) (fun i=>c i j) (fun i hi=>by rw [h2 i hi]),show v=n0+(v - n0) by omega,h2 (v - n0) (by omega),show n0+(v - n0) - n0=v - n0 by omega]
  grind
 ·unfold tim
  by_cases e:n0+i=v
  ·have h1:g=true:=by
    refine Classical.byContradiction fun h=>?_
    rw [if_neg h] at hov
    have:=hov.1
    rw [← e,he] at this;cases this
   rw [if_pos h1,if_pos e,e,hs.1 v hv bv v hv bv];grind
  ·rw [if_neg e]
   by_cases hb:s.D.B (n0+i)=true
   ·rw [hs.1 v hv bv _ (by omega) hb];grind
   ·by_cases ha:s.D.A v (n0+i)=0
    ·rw [ha];grind
    ·have h1:¬ (g=true↔0 < s.D.A v (n0+i)):=fun h=>hno (n0+i) (by omega) (by simpa using hb) ⟨ha,.inr ⟨he,h⟩⟩
     by_cases hg:g=true
     ·simp only [hg] at h1 ⊢;grind
     ·simp only [hg] at h1 ⊢;grind
 ·have h3:∀ i,i < m→s.D.A v (n0+i)*P.hA (n0+i)=s.D.A v (n0+i)*s.a (n0+i)∧s.D.A v (n0+i)*P.hB (n0+i)=s.D.A v (n0+i)*s.b (n0+i):=by
   intro i hi
   by_cases hb:s.D.B (n0+i)=true
   ·rw [hs.1 v hv bv _ (by omega) hb];grind
   ·obtain ⟨h6,h7⟩:=hs.2.2.2 (n0+i) (by omega) (by omega) (by simpa using hb)
    rw [h6,h7];grind
  rw [key s.a (hs.2.1 v hv bv) (fun i=>P.hA (n0+i)) (fun i hi=>(h3 i hi).1),key s.b (hs.2.2.1 v hv bv) (fun i=>P.hB (n0+i)) (fun i hi=>(h3 i hi).2),show n0+(v - n0)=v by omega]
  by_cases hg:g=true
  ·rw [if_pos hg] at hov ⊢
   unfold Over at hov
   rw [show -(1*(P.hA v - s.a v))=s.a v - P.hA v by grind,show -(1*(P.hB v - s.b v))=s.b v - P.hB v by grind];exact hov
  ·rw [if_neg hg] at hov ⊢
   rw [show -(-1*(P.hA v - s.a v))=P.hA v - s.a v by grind,show -(-1*(P.hB v - s.b v))=P.hB v - s.b v by grind];exact hov.2

def skip (j i:Nat):Nat:=if i < j then i else i+1
def sgn (n:Nat):Rat:=if n % 2=0 then 1 else -1
def det:Nat→(Nat→Nat→Rat)→Rat
 | 0,_=>1
 | k+1,M=>sm (k+1) fun j=>sgn (k+j)*M k j*det k (fun i l=>M i (skip j l))
def setc (M:Nat→Nat→Rat) (c:Nat) (u:Nat→Rat):Nat→Nat→Rat:=fun i j=>if j=c then u i else M i j
theorem det_succ (k:Nat) (M:Nat→Nat→Rat):det (k+1) M=sm (k+1) fun j=>sgn (k+j)*M k j*det k (fun i l=>M i (skip j l)):=rfl
theorem det_congr {n:Nat} {M K:Nat→Nat→Rat} (h:∀ i j,i < n→j < n→M i j=K i j):det n M=det n K:=by
 induction n generalizing M K with
 | zero=>rfl
 | succ n ih=>
  rw [det_succ,det_succ]
  refine sm_congr fun j hj=>?_
  rw [h n j (by omega) hj,ih (M:=fun i l=>M i (skip j l)) (K:=fun i l=>K i (skip j l)) fun i l hi hl=>h i _ (by omega) (by unfold skip;split <;> omega)]
theorem setc_same (M:Nat→Nat→Rat) (c:Nat) (u:Nat→Rat) (i:Nat):setc M c u i c=u i:=if_pos rfl
theorem setc_ne {M:Nat→Nat→Rat} {c j:Nat} {u:Nat→Rat} {i:Nat} (h:j≠c):setc M c u i j=M i j:=if_neg h
theorem minor_same (M:Nat→Nat→Rat) (c:Nat) (u:Nat→Rat):(fun i l=>setc M c u i (skip c l))=fun i l=>M i (skip c l):=by
 funext i l
 exact setc_ne (by unfold skip;split <;> omega)
theorem minor_ne (M:Nat→Nat→Rat) {c j:Nat} (u:Nat→Rat) (h:j≠c):(fun i l=>setc M c u i (skip j l))=setc (fun i l=>M i (skip j l)) (if c < j then c else c - 1) u:=by
 funext i l
 unfold setc
 have:(skip j l=c)↔(l=if c < j then c else c - 1):=by
  unfold skip
  split <;> split <;> omega
 by_cases e:skip j l=c
 ·rw [if_pos e,if_pos (this.1 e)]
 ·rw [if_neg e,if_neg fun h=>e (this.2 h)]
theorem det_lin {n:Nat} (M:Nat→Nat→Rat) {c:Nat} (hc:c < n) (r:Rat) (u w:Nat→Rat):det n (setc M c fun i=>r*u i+w i)=r*det n (setc M c u)+det n (setc M c w):=by
 induction n generalizing M c with
 | zero=>omega
 | succ n ih=>
  rw [det_succ,det_succ,det_succ,← sm_mul,← sm_add]
  refine sm_congr fun j hj=>?_
  by_cases e:j=c
  ·subst e
   rw [setc_same,setc_same,setc_same,minor_same,minor_same,minor_same];grind
  ·rw [setc_ne e,setc_ne e,setc_ne e,minor_ne M _ e,minor_ne M _ e,minor_ne M _ e,ih _ (by split <;> omega)];grind
theorem det_zero {n:Nat} (M:Nat→Nat→Rat) {c:Nat} (hc:c < n):det n (setc M c fun _=>0)=0:=by
 have:=det_lin M hc 1 (fun _=>0) (fun _=>0)
 rw [show (fun i:Nat=>(1:Rat)*(fun _:Nat=>(0:Rat)) i+(fun _:Nat=>(0:Rat)) i)=fun _=>0 from by funext i;grind] at this
 grind
theorem det_sum {n:Nat} (M:Nat→Nat→Rat) {c:Nat} (hc:c < n) (m:Nat) (x:Nat→Rat) (u:Nat→Nat→Rat):det n (setc M c fun i=>sm m fun l=>x l*u l i)=sm m fun l=>x l*det n (setc M c (u l)):=by
 induction m with
 | zero=>exact det_zero M hc
 | succ m ih=>
  show det n (setc M c fun i=>sm m (fun l=>x l*u l i)+x m*u m i)=sm m (fun l=>x l*det n (setc M c (u l)))+_
  rw [show (fun i=>sm m (fun l=>x l*u l i)+x m*u m i)=fun i=>x m*u m i+sm m (fun l=>x l*u l i) from by funext i;grind,det_lin M hc,ih];grind
theorem sgn_succ (n:Nat):sgn (n+1) = -sgn n:=by unfold sgn;split <;> split <;> first | omega | grind
theorem sm_two {n:Nat} {f:Nat→Rat} {c:Nat} (hc:c+1 < n) (h:∀ i,i < n→i≠c→i≠c+1→f i=0):sm n f=f c+f (c+1):=by
 have e:sm n f=sm n (fun i=>(if i=c then f c else 0)+(if i=c+1 then f (c+1) else 0)):=sm_congr fun i hi=>by
  by_cases h1:i=c
  ·subst h1;rw [if_pos rfl,if_neg (by omega)];grind
  ·by_cases h2:i=c+1
   ·subst h2;rw [if_neg (by omega),if_pos rfl];grind
   ·rw [if_neg h1,if_neg h2,h i hi h1 h2];grind
 rw [e,sm_add,sm_one c (by omega) fun i _ h=>if_neg h,sm_one (c+1) hc fun i _ h=>if_neg h,if_pos rfl,if_pos rfl]
theorem det_adj {n:Nat} {M:Nat→Nat→Rat} {c:Nat} (hc:c+1 < n) (h:∀ i,i < n→M i c=M i (c+1)):det n M=0:=by
 induction n generalizing M c with
 | zero=>omega
 | succ n ih=>
  rw [det_succ,sm_two hc]
  ·rw [h n (by omega),show n+(c+1)=n+c+1 by omega,sgn_succ,det_congr (M:=fun i l=>M i (skip c l)) (K:=fun i l=>M i (skip (c+1) l)) fun i l hi hl=>?_]
   ·grind
   ·show M i (skip c l)=M i (skip (c+1) l)
    unfold skip
    by_cases e:l=c
    ·subst e;rw [if_neg (by omega),if_pos (by omega),h i (by omega)]
    ·congr 1;split <;> split <;> omega
  ·intro j hj h1 h2
   have hz:det n (fun i l=>M i (skip j l))=0:=by
    by_cases hlt:j < c
    ·refine ih (c:=c - 1) (by omega) fun i hi=>?_
     show M i (skip j (c - 1))=M i (skip j (c - 1+1))
     unfold skip
     rw [if_neg (by omega),if_neg (by omega),show c - 1+1=c by omega]
     exact h i (by omega)
    ·refine ih (c:=c) (by omega) fun i hi=>?_
     show M i (skip j c)=M i (skip j (c+1))
     unfold skip
     rw [if_pos (by omega),if_pos (by omega)]
     exact h i (by omega)
   rw [hz];grind
theorem setc_comm (M:Nat→Nat→Rat) {c d:Nat} (h:c≠d) (u w:Nat→Rat):setc (setc M c u) d w=setc (setc M d w) c u:=by
 funext i j
 unfold setc
 by_cases e:j=d
 ·rw [if_pos e,if_neg (by omega),if_pos e]
 ·rw [if_neg e]
  by_cases e2:j=c
  ·rw [if_pos e2,if_pos e2]
  ·rw [if_neg e2,if_neg e2,if_neg e]
theorem setc_self (M:Nat→Nat→Rat) (c:Nat):setc M c (fun i=>M i c)=M:=by
 funext i j
 unfold setc
 by_cases e:j=c
 ·rw [if_pos e,e]
 ·rw [if_neg e]
theorem det_swap {n:Nat} (M:Nat→Nat→Rat) {c:Nat} (hc:c+1 < n) (u w:Nat→Rat):det n (setc (setc M c u) (c+1) w) = -det n (setc (setc M c w) (c+1) u):=by
 have hz:∀ v:Nat→Rat,det n (setc (setc M c v) (c+1) v)=0:=fun v=>det_adj hc fun i _=>by
  rw [setc_same,setc_ne (by omega),setc_same]
 have h0:=hz fun i=>1*u i+w i
 rw [det_lin _ hc,setc_comm _ (by omega),setc_comm M (by omega) (fun i=>1*u i+w i) w,det_lin _ (by omega),det_lin _ (by omega)] at h0
 rw [← setc_comm M (by omega) u u,← setc_comm M (by omega) w u,← setc_comm M (by omega) u w,← setc_comm M (by omega) w w,hz,hz] at h0
 rw [setc_comm M (show c≠c+1 by omega) u w,setc_comm M (show c≠c+1 by omega) w u]
 grind
theorem det_two {n:Nat}:∀ (d:Nat) (M:Nat→Nat→Rat) (c:Nat),c+d+1 < n→(∀ i,i < n→M i c=M i (c+d+1))→det n M=0:=by
 intro d
 induction d with
 | zero=>intro M c hc h;exact det_adj hc h
 | succ d ih=>
  intro M c hc h
  have h1:det n (setc (setc M (c+d+1) fun i=>M i (c+d+1+1)) (c+d+1+1) fun i=>M i (c+d+1))=0:=by
   refine ih _ c (by omega) fun i hi=>?_
   rw [setc_ne (by omega),setc_ne (by omega),setc_ne (by omega),setc_same]
   exact h i hi
  rw [det_swap M (by omega)] at h1
  rw [setc_self,setc_self] at h1
  grind
theorem det_same {n:Nat} {M:Nat→Nat→Rat} {c d:Nat} (hc:c < n) (hd:d < n) (hne:c≠d) (h:∀ i,i < n→M i c=M i d):det n M=0:=by
 by_cases e:c < d
 ·obtain ⟨k,rfl⟩:∃ k,d=c+k+1:=⟨d - c - 1,by omega⟩
  exact det_two k M c hd h
 ·obtain ⟨k,rfl⟩:∃ k,c=d+k+1:=⟨c - d - 1,by omega⟩
  exact det_two k M d hc fun i hi=>(h i hi).symm
theorem cramer {n:Nat} (M:Nat→Nat→Rat) {c:Nat} (hc:c < n) (x:Nat→Rat):det n (setc M c fun i=>sm n fun l=>x l*M i l)=x c*det n M:=by
 rw [det_sum M hc n x (fun l i=>M i l),sm_one c hc fun l hl hne=>?_,setc_self]
 rw [det_same hc hl (Ne.symm hne) fun i _=>by rw [setc_same,setc_ne hne]];grind
theorem det_last {n:Nat} (M:Nat→Nat→Rat) (z:Rat):det (n+1) (setc M n fun i=>if i=n then z else 0)=z*det n M:=by
 rw [det_succ,sm_one n (by omega) fun j hj hne=>?_]
 ·rw [setc_same,if_pos rfl,minor_same,show n+n=2*n by omega,show sgn (2*n)=1 from by unfold sgn;rw [if_pos (by omega)],det_congr (M:=fun i l=>M i (skip n l)) (K:=M) fun i l _ hl=>by
   show M i (skip n l)=M i l
   unfold skip;rw [if_pos hl]]
  grind
 ·rw [minor_ne M _ hne,if_neg (by omega)]
  have:det n (setc (fun i l=>M i (skip j l)) (n - 1) fun i=>if i=n then z else 0)=0:=by
   rw [det_congr (K:=setc (fun i l=>M i (skip j l)) (n - 1) fun _=>0) fun i l hi _=>?_]
   ·exact det_zero _ (by omega)
   ·unfold setc
    by_cases e:l=n - 1
    ·rw [if_pos e,if_pos e];exact if_neg (by omega)
    ·rw [if_neg e,if_neg e]
  rw [this];grind

def Zb (H:Nat) (q:Rat):Prop:=∃ z:Int,q=(z:Rat)∧z.natAbs≤H
theorem Zb.zero (H:Nat):Zb H 0:=⟨0,by rfl,by simp⟩
theorem Zb.mono {H K:Nat} {q:Rat} (h:Zb H q) (k:H≤K):Zb K q:=by
 obtain ⟨z,e,h⟩:=h
 exact ⟨z,e,Nat.le_trans h k⟩
theorem Zb.mul {H K:Nat} {p q:Rat} (h:Zb H p) (k:Zb K q):Zb (H*K) (p*q):=by
 obtain ⟨y,rfl,h⟩:=h
 obtain ⟨z,rfl,k⟩:=k
 exact ⟨y*z,(Rat.intCast_mul _ _).symm,by rw [Int.natAbs_mul];exact Nat.mul_le_mul h k⟩
theorem Zb.add {H K:Nat} {p q:Rat} (h:Zb H p) (k:Zb K q):Zb (H+K) (p+q):=by
 obtain ⟨y,rfl,h⟩:=h
 obtain ⟨z,rfl,k⟩:=k
 exact ⟨y+z,(Rat.intCast_add _ _).symm,Nat.le_trans (Int.natAbs_add_le _ _) (Nat.add_le_add h k)⟩
theorem Zb.neg {H:Nat} {p:Rat} (h:Zb H p):Zb H (-p):=by
 obtain ⟨y,rfl,h⟩:=h
 exact ⟨-y,(Rat.intCast_neg _).symm,by rw [Int.natAbs_neg];exact h⟩
theorem Zb.sm {H:Nat} {n:Nat} {f:Nat→Rat} (h:∀ i,i < n→Zb H (f i)):Zb (n*H) (Sx.sm n f):=by
 induction n with
 | zero=>exact Zb.zero _
 | succ n ih=>rw [Nat.succ_mul];exact (ih fun i hi=>h i (by omega)).add (h n (by omega))
def Fk (H:Nat):Nat→Nat
 | 0=>1
 | k+1=>(k+1)*(H*Fk H k)
theorem det_zb {H n:Nat} {M:Nat→Nat→Rat} (h:∀ i j,i < n→j < n→Zb H (M i j)):Zb (Fk H n) (det n M):=by
 induction n generalizing M with
 | zero=>exact ⟨1,by rfl,Nat.le_refl 1⟩
 | succ n ih=>
  refine Zb.sm fun j hj=>?_
  refine Zb.mul ?_ (ih fun i l hi hl=>h i _ (by omega) (by unfold skip;split <;> omega))
  unfold sgn
  split
  ·rw [Rat.one_mul];exact h n j (by omega) hj
  ·rw [show (-1:Rat)*M n j = -M n j by grind];exact (h n j (by omega) hj).neg
theorem quot_zb {H K:Nat} {p q r:Rat} (hp:Zb H p) (hq:Zb K q) (h0:q≠0) (h:r*q=p):r.num.natAbs≤H∧r.den≤K:=by
 obtain ⟨y,rfl,hp⟩:=hp
 obtain ⟨z,rfl,hq⟩:=hq
 have hz:z≠0:=fun e=>h0 (by rw [e];rfl)
 have h1:(r.num:Rat)*z=y*r.den:=by
  have hd:(r.den:Rat)≠0:=by
   intro e;exact r.den_nz (by exact_mod_cast e)
  have e2:r*r.den=r.num:=by
   have e:(r.num:Rat) / ((r.den:Int):Rat)=r:=by rw [← Rat.divInt_eq_div];exact Rat.num_divInt_den r
   have e3:((r.den:Int):Rat)=(r.den:Rat):=Rat.intCast_natCast _
   rw [e3] at e
   grind
  rw [← e2,← h];grind
 have h2:r.num*z=y*(r.den:Int):=by exact_mod_cast h1
 have h3:r.num.natAbs*z.natAbs=y.natAbs*r.den:=by
  have:=congrArg Int.natAbs h2
  rwa [Int.natAbs_mul,Int.natAbs_mul,Int.natAbs_natCast] at this
 have hc:=r.reduced
 have d1:r.den ∣ z.natAbs:=by
  refine Nat.Coprime.dvd_of_dvd_mul_left (Nat.Coprime.symm hc) ?_
  exact ⟨y.natAbs,by rw [h3,Nat.mul_comm]⟩
 have d2:r.num.natAbs ∣ y.natAbs:=by
  refine Nat.Coprime.dvd_of_dvd_mul_right hc ?_
  exact ⟨z.natAbs,by rw [h3]⟩
 refine ⟨?_,Nat.le_trans (Nat.le_of_dvd (by omega) d1) hq⟩
 by_cases e:y.natAbs=0
 ·have:r.num.natAbs*z.natAbs=0:=by rw [h3,e,Nat.zero_mul]
  rcases Nat.mul_eq_zero.1 this with h | h <;> omega
 ·exact Nat.le_trans (Nat.le_of_dvd (by omega) d2) hp

def cnt:Nat→(Nat→Bool)→Nat
 | 0,_=>0
 | n+1,b=>cnt n b+(if b n=true then 1 else 0)
theorem cnt_le (n:Nat) (b:Nat→Bool):cnt n b≤n:=by
 induction n with
 | zero=>exact Nat.le_refl _
 | succ n ih=>show cnt n b+(if b n=true then 1 else 0)≤n+1;split <;> omega
theorem cnt_split (n m:Nat) (b:Nat→Bool):cnt (n+m) b=cnt n b+cnt m fun i=>b (n+i):=by
 induction m with
 | zero=>rfl
 | succ m ih=>show cnt (n+m) b+(if b (n+m)=true then 1 else 0)=cnt n b+(cnt m (fun i=>b (n+i))+(if b (n+m)=true then 1 else 0));omega
theorem cnt_congr {n:Nat} {b c:Nat→Bool} (h:∀ i,i < n→b i=c i):cnt n b=cnt n c:=by
 induction n with
 | zero=>rfl
 | succ n ih=>show cnt n b+_=cnt n c+_;rw [ih fun i hi=>h i (by omega),h n (by omega)]
theorem cnt_more {n:Nat} {b c:Nat→Bool} {k:Nat} (hk:k < n) (h:∀ i,i < n→i≠k→b i=c i) (hb:b k=false) (hc:c k=true):cnt n c=cnt n b+1:=by
 induction n with
 | zero=>omega
 | succ n ih=>
  show cnt n c+(if c n=true then 1 else 0)=cnt n b+(if b n=true then 1 else 0)+1
  by_cases e:k=n
  ·subst e
   rw [cnt_congr fun i hi=>h i (by omega) (by omega),hb,hc];simp
  ·rw [ih (by omega) fun i hi=>h i (by omega),h n (by omega) (by omega)];omega
theorem cnt_zero {n:Nat} {b:Nat→Bool} (h:cnt n b=0):∀ i,i < n→b i=false:=by
 induction n with
 | zero=>intro i hi;omega
 | succ n ih=>
  have h:cnt n b+(if b n=true then 1 else 0)=0:=h
  intro i hi
  by_cases e:i=n
  ·subst e
   by_cases hb:b i=true
   ·rw [if_pos hb] at h;omega
   ·simpa using hb
  ·exact ih (by omega) i (by omega)
theorem cnt_some {n:Nat} {b:Nat→Bool} (h:cnt n b≠0):∃ i,i < n∧b i=true:=by
 refine Classical.byContradiction fun hc=>h ?_
 have h2:∀ i,i < n→b i=(fun _=>false) i:=fun i hi=>by
  by_cases hb:b i=true
  ·exact absurd ⟨i,hi,hb⟩ hc
  ·simpa using hb
 rw [cnt_congr h2]
 clear h h2 hc
 induction n with
 | zero=>rfl
 | succ n ih=>show cnt n _+0=0;omega
theorem cnt_piv {N:Nat} {D:Dic} {r k:Nat} (hr:r < N) (hk:k < N) (br:D.B r=true) (bk:D.B k=false):cnt N (piv D r k).B=cnt N D.B:=by
 have hrk:r≠k:=fun e=>by rw [e,bk] at br;cases br
 have h1:cnt N (fun u=>D.B u || u == k)=cnt N D.B+1:=cnt_more hk (fun i _ hi=>by simp [hi]) bk (by simp)
 have h2:cnt N (fun u=>D.B u || u == k)=cnt N (piv D r k).B+1:=by
  refine cnt_more hr (fun i _ hi=>?_) ?_ (by rw [br];rfl)
  ·have h3:=piv_B D r k i
   by_cases e1:i=k
   ·subst e1;rw [(h3.2 (.inl rfl))];simp
   ·by_cases e2:D.B i=true
    ·rw [h3.2 (.inr ⟨e2,hi⟩),e2];rfl
    ·have h4:(piv D r k).B i=false:=by
      rw [← Bool.not_eq_true,h3]
      rintro (h | ⟨h,_⟩)
      ·exact e1 h
      ·exact e2 h
     rw [h4];simp [e1,e2]
  ·rw [← Bool.not_eq_true,piv_B]
   rintro (h | ⟨_,h⟩)
   ·exact hrk h
   ·exact h rfl
 omega
def smb (n:Nat) (b:Nat→Bool) (f:Nat→Rat):Rat:=sm n fun j=>if b j=true then f j else 0
theorem smb_more {n:Nat} {b c:Nat→Bool} {k:Nat} (hk:k < n) (h:∀ i,i < n→i≠k→b i=c i) (hb:b k=false) (hc:c k=true) (f:Nat→Rat):smb n c f=smb n b f+f k:=by
 unfold smb
 rw [show f k=sm n (fun i=>if i=k then f k else 0) from by rw [sm_one k hk fun i _ h=>if_neg h,if_pos rfl],← sm_add]
 refine sm_congr fun i hi=>?_
 by_cases e:i=k
 ·subst e;rw [hb,hc,if_pos rfl,if_pos rfl];simp [Rat.zero_add]
 ·rw [h i hi e,if_neg e];grind

structure RowsZ (m n0 H:Nat) (c:Nat→Nat→Rat) (d:Nat→Rat):Prop where
 ne:∀ i,i < m→d i≠0
 zd:∀ i,i < m→Zb H (d i)
 zc:∀ i j,i < m→j < n0→Zb H (d i*c i j)
theorem nice {m n0 H:Nat} {c:Nat→Nat→Rat} {d:Nat→Rat} (R:RowsZ m n0 H c d):∀ (k:Nat) (D:Dic),Nz (n0+m) D→(∀ x,Sol (n0+m) D x↔Sol (n0+m) (D0 n0 c) x)→cnt n0 D.B=k→
  ∃ σ τ:Nat→Nat,(∀ i,i < k→σ i < m∧D.B (n0+σ i)=false)∧(∀ l,l < k→τ l < n0)∧(∀ v,v < n0→D.B v=true→∃ l,l < k∧τ l=v)∧(∀ f,smb n0 D.B f=sm k fun l=>f (τ l))∧det k (fun i l=>d (σ i)*c (σ i) (τ l))≠0:=by
 intro k
 induction k with
 | zero=>
  intro D _ _ hc
  have h0:=cnt_zero hc
  refine ⟨fun _=>0,fun _=>0,fun i hi=>by omega,fun i hi=>by omega,fun v hv hb=>absurd (h0 v hv) (by rw [hb];decide),fun f=>?_,?_⟩
  ·exact sm_zero fun i hi=>if_neg (by rw [h0 i hi];decide)
  ·show (1:Rat)≠0;decide
 | succ k ih=>
  intro D hN hS hc
  obtain ⟨b,hb,bb⟩:=cnt_some (n:=n0) (b:=D.B) (by omega)
  have hex:∃ s,s < n0+m∧n0≤s∧D.B s=false∧D.A b s≠0:=by
   refine Classical.byContradiction fun hno=>?_
   have h1:=(hS _).2 (fill_sol (D0_nz (n0+m) n0 c) fun j=>if j=b then 1 else 0) b (by omega) bb
   rw [fill_non (by simp [D0];omega),if_pos rfl,sm_zero fun j hj=>?_] at h1
   ·exact absurd h1 (by decide)
   ·by_cases bj:D.B j=true
    ·rw [hN b (by omega) bb j hj bj];grind
    ·by_cases hj0:n0≤j
     ·have:D.A b j=0:=Classical.byContradiction fun h=>hno ⟨j,hj,hj0,by simpa using bj,h⟩
      rw [this];grind
     ·rw [fill_non (by simp [D0];omega),if_neg (fun e=>bj (by rw [e];exact bb))];grind
  obtain ⟨s,hs,hs0,bs,hA⟩:=hex
  have hbs:b≠s:=by omega
  have hN':=hN.piv (show b < n0+m by omega) hs bb bs
  have hS':∀ x,Sol (n0+m) (piv D b s) x↔Sol (n0+m) (D0 n0 c) x:=fun x=>(sol_piv hN (by omega) hs bb bs hA x).trans (hS x)
  have hb':(piv D b s).B b=false:=by
   rw [← Bool.not_eq_true,piv_B]
   rintro (h | ⟨_,h⟩)
   ·exact hbs h
   ·exact h rfl
  have hs':(piv D b s).B s=true:=(piv_B _ _ _ _).2 (.inl rfl)
  have hrest:∀ i,i≠b→i≠s→(piv D b s).B i=D.B i:=by
   intro i h1 h2
   have h3:=piv_B D b s i
   by_cases e:D.B i=true
   ·rw [h3.2 (.inr ⟨e,h1⟩),e]
   ·have h4:(piv D b s).B i=false:=by
     rw [← Bool.not_eq_true,h3]
     rintro (h | ⟨h,_⟩)
     ·exact h2 h
     ·exact e h
    rw [h4];simpa using e
  have hcn:cnt n0 D.B=cnt n0 (piv D b s).B+1:=cnt_more hb (fun i hi h=>hrest i h (by omega)) hb' bb
  obtain ⟨σ,τ,h1,h2,h3,h4,h5⟩:=ih _ hN' hS' (by omega)
  refine ⟨fun i=>if i=k then s - n0 else σ i,fun l=>if l=k then b else τ l,fun i hi=>?_,fun l hl=>?_,fun v hv bv=>?_,fun f=>?_,?_⟩
  ·dsimp only
   by_cases e:i=k
   ·rw [if_pos e];exact ⟨by omega,by rw [show n0+(s - n0)=s by omega];exact bs⟩
   ·rw [if_neg e]
    obtain ⟨g1,g2⟩:=h1 i (by omega)
    refine ⟨g1,?_⟩
    have g3:n0+σ i≠s:=fun e=>by rw [e,hs'] at g2;cases g2
    rw [← hrest _ (by omega) g3];exact g2
  ·dsimp only
   by_cases e:l=k
   ·rw [if_pos e];exact hb
   ·rw [if_neg e];exact h2 l (by omega)
  ·by_cases e:v=b
   ·exact ⟨k,by omega,by dsimp only;rw [if_pos rfl,e]⟩
   ·obtain ⟨l,g1,g2⟩:=h3 v hv (by rw [hrest v e (by omega)];exact bv)
    exact ⟨l,by omega,by dsimp only;rw [if_neg (by omega)];exact g2⟩
  ·rw [smb_more hb (fun i hi h=>hrest i h (by omega)) hb' bb f,h4]
   show _=sm k (fun l=>f (if l=k then b else τ l))+f (if k=k then b else τ k)
   rw [if_pos rfl,sm_congr (n:=k) (f:=fun l=>f (if l=k then b else τ l)) (g:=fun l=>f (τ l)) fun l hl=>by rw [if_neg (by omega)]]
  ·-- the last column
   have hx:=(hS' _).1 (fill_sol hN' fun j=>if j=b then 1 else 0)
   have hD0:=D0_sol.1 hx
   generalize hxd:fill (n0+m) (piv D b s) (fun j=>if j=b then 1 else 0)=x at hx hD0
   have xb:x b=1:=by rw [← hxd,fill_non hb',if_pos rfl]
   have xn:∀ j,j≠b→(piv D b s).B j=false→x j=0:=fun j h1 h2=>by rw [← hxd,fill_non h2,if_neg h1]
   have xs:x s≠0:=by
    rw [← hxd,fill_bas hs',sm_one b (by omega) fun i _ h=>by rw [if_neg h];grind,if_pos rfl]
    show (if s=s then (if b=b then (D.A b s)⁻¹ else _) else _)*1≠0
    rw [if_pos rfl,if_pos rfl]
    have:=Rat.mul_inv_cancel _ hA
    intro h6
    rw [show (D.A b s)⁻¹=0 by grind] at this
    grind
   have hrow:∀ i,i < m→d i*x (n0+i)=(sm k fun l=>d i*c i (τ l)*x (τ l))+d i*c i b:=by
    intro i hi
    have e1:(sm n0 fun j=>c i j*x j)=smb n0 (piv D b s).B (fun j=>c i j*x j)+c i b:=by
     have e2:=smb_more (n:=n0) (b:=(piv D b s).B) (c:=D.B) hb (fun i hi h=>hrest i h (by omega)) hb' bb fun j=>c i j*x j
     have e3:(sm n0 fun j=>c i j*x j)=smb n0 D.B fun j=>c i j*x j:=sm_congr fun j hj=>by
      by_cases e:D.B j=true
      ·rw [if_pos e]
      ·rw [if_neg e,xn j (fun h=>e (by rw [h];exact bb)) (by rw [hrest j (fun h=>e (by rw [h];exact bb)) (by omega)];simpa using e)];grind
     rw [e3,e2,xb];grind
    rw [hD0 i hi,e1,h4,sm_congr (n:=k) (g:=fun l=>d i*(c i (τ l)*x (τ l))) (f:=fun l=>d i*c i (τ l)*x (τ l)) fun l _=>by grind,sm_mul];grind
   intro hz
   have hcr:=cramer (n:=k+1) (fun i l=>d (if i=k then s - n0 else σ i)*c (if i=k then s - n0 else σ i) (if l=k then b else τ l)) (c:=k) (by omega) (fun l=>if l=k then 1 else x (τ l))
   rw [hz,Rat.mul_zero,det_congr (K:=setc (fun i l=>d (if i=k then s - n0 else σ i)*c (if i=k then s - n0 else σ i) (if l=k then b else τ l)) k fun i=>if i=k then d (s - n0)*x s else 0) fun i j hi hj=>?_,det_last,
    det_congr (M:=fun i l=>d (if i=k then s - n0 else σ i)*c (if i=k then s - n0 else σ i) (if l=k then b else τ l)) (K:=fun i l=>d (σ i)*c (σ i) (τ l)) fun i j hi hj=>by rw [if_neg (by omega),if_neg (by omega)]] at hcr
   ·have hd:=R.ne (s - n0) (by omega)
    rcases Rat.mul_eq_zero.1 hcr with h | h
    ·rcases Rat.mul_eq_zero.1 h with h | h
     ·exact hd h
     ·exact xs h
    ·exact h5 h
   ·unfold setc
    by_cases e:j=k
    ·rw [if_pos e,if_pos e]
     show (sm k (fun l=>(if l=k then 1 else x (τ l))*(d (if i=k then s - n0 else σ i)*c (if i=k then s - n0 else σ i) (if l=k then b else τ l)))+(if k=k then 1 else x (τ k))*(d (if i=k then s - n0 else σ i)*c (if i=k then s - n0 else σ i) (if k=k then b else τ k)))=if i=k then d (s - n0)*x s else 0
     rw [if_pos rfl,if_pos rfl]
     have e1:∀ i',(sm k fun l=>(if l=k then 1 else x (τ l))*(d i'*c i' (if l=k then b else τ l)))=sm k fun l=>d i'*c i' (τ l)*x (τ l):=fun i'=>sm_congr fun l hl=>by rw [if_neg (by omega),if_neg (by omega)];grind
     rw [e1]
     by_cases e2:i=k
     ·rw [if_pos e2,if_pos e2]
      have:=hrow (s - n0) (by omega)
      rw [show n0+(s - n0)=s by omega] at this
      rw [this];grind
     ·rw [if_neg e2,if_neg e2]
      have h6:=h1 i (by omega)
      have:=hrow (σ i) h6.1
      rw [xn (n0+σ i) (by omega) h6.2] at this
      grind
    ·rw [if_neg e,if_neg e]

theorem Fk_pos {H:Nat} (hH:1≤H):∀ k,1≤Fk H k
 | 0=>Nat.le_refl 1
 | k+1=>Nat.mul_pos (Nat.succ_pos k) (Nat.mul_pos hH (Fk_pos hH k))
theorem Fk_le {H:Nat} (k:Nat):H*Fk H k≤Fk H (k+1):=Nat.le_mul_of_pos_left _ (Nat.succ_pos k)
theorem Fk_step {H:Nat} (hH:1≤H) (k:Nat):Fk H k≤Fk H (k+1):=Nat.le_trans (Nat.le_mul_of_pos_left _ hH) (Fk_le k)
theorem Fk_mono {H:Nat} (hH:1≤H) {k l:Nat} (h:k≤l):Fk H k≤Fk H l:=by
 induction l with
 | zero=>
      obtain rfl:k=0:=by omega
      exact Nat.le_refl _
 | succ l ih=>
  by_cases e:k=l+1
  ·rw [e];exact Nat.le_refl _
  ·exact Nat.le_trans (ih (by omega)) (Fk_step hH l)
def zr (n0:Nat) (c:Nat→Nat→Rat) (d:Nat→Rat) (D:Dic) (x:Nat→Rat) (i:Nat):Rat:=sm n0 fun j=>if D.B j=true then 0 else d i*c i j*x j
theorem small {m n0 H:Nat} {c:Nat→Nat→Rat} {d:Nat→Rat} (R:RowsZ m n0 H c d) (hH:1≤H) {D:Dic} (hN:Nz (n0+m) D) (hS:∀ x,Sol (n0+m) D x↔Sol (n0+m) (D0 n0 c) x) {x:Nat→Rat} (hx:Sol (n0+m) (D0 n0 c) x)
  (hz:∀ i,i < m→Zb H (zr n0 c d D x i)) (hy:∀ i,i < m→D.B (n0+i)=false→Zb H (d i*x (n0+i) - zr n0 c d D x i)):
  ∀ v,v < n0+m→D.B v=true→(x v).num.natAbs≤Fk H (cnt n0 D.B+1)∧(x v).den≤Fk H (cnt n0 D.B+1):=by
 obtain ⟨σ,τ,h1,h2,h3,h4,h5⟩:=nice R _ D hN hS rfl
 generalize cnt n0 D.B=k at*
 have hD0:=D0_sol.1 hx
 have hrow:∀ i,i < m→d i*x (n0+i)=(sm k fun l=>d i*c i (τ l)*x (τ l))+zr n0 c d D x i:=by
  intro i hi
  rw [hD0 i hi,← h4 (fun j=>d i*c i j*x j)]
  unfold smb zr
  rw [← sm_mul,← sm_add]
  refine sm_congr fun j _=>?_
  by_cases e:D.B j=true
  ·rw [if_pos e,if_pos e];grind
  ·rw [if_neg e,if_neg e];grind
 have hdz:Zb (Fk H k) (det k fun i l=>d (σ i)*c (σ i) (τ l)):=det_zb fun i j hi hj=>R.zc _ _ (h1 i hi).1 (h2 j hj)
 have hcr:∀ l,l < k→Zb (Fk H k) (x (τ l)*det k fun i l=>d (σ i)*c (σ i) (τ l)):=by
  intro l hl
  rw [← cramer (n:=k) (fun i l=>d (σ i)*c (σ i) (τ l)) hl (fun l=>x (τ l))]
  refine det_zb fun i j hi hj=>?_
  unfold setc
  by_cases e:j=l
  ·rw [if_pos e]
   dsimp only
   have h6:=hy (σ i) (h1 i hi).1 (h1 i hi).2
   rw [hrow (σ i) (h1 i hi).1] at h6
   rw [show (sm k fun l=>x (τ l)*(d (σ i)*c (σ i) (τ l)))=(sm k (fun l=>d (σ i)*c (σ i) (τ l)*x (τ l))+zr n0 c d D x (σ i)) - zr n0 c d D x (σ i) from by
    rw [show (sm k fun l=>x (τ l)*(d (σ i)*c (σ i) (τ l)))=sm k fun l=>d (σ i)*c (σ i) (τ l)*x (τ l) from sm_congr fun l _=>by grind];grind]
   exact h6
  ·rw [if_neg e];exact R.zc _ _ (h1 i hi).1 (h2 j hj)
 intro v hv bv
 by_cases e:v < n0
 ·obtain ⟨l,hl,rfl⟩:=h3 v e bv
  have:=quot_zb (hcr l hl) hdz h5 rfl
  exact ⟨Nat.le_trans this.1 (Fk_step hH k),Nat.le_trans this.2 (Fk_step hH k)⟩
 ·obtain ⟨i,rfl⟩:∃ i,v=n0+i:=⟨v - n0,by omega⟩
  have hi:i < m:=by omega
  have hne:d i*(det k fun i l=>d (σ i)*c (σ i) (τ l))≠0:=by
   intro h
   rcases Rat.mul_eq_zero.1 h with h | h
   ·exact R.ne i hi h
   ·exact h5 h
  have hp:Zb (Fk H (k+1)) (x (n0+i)*(d i*det k fun i l=>d (σ i)*c (σ i) (τ l))):=by
   rw [show x (n0+i)*(d i*det k fun i l=>d (σ i)*c (σ i) (τ l))=(sm k fun l=>d i*c i (τ l)*(x (τ l)*det k fun i l=>d (σ i)*c (σ i) (τ l)))+zr n0 c d D x i*det k fun i l=>d (σ i)*c (σ i) (τ l) from by
    have e1:=hrow i hi
    generalize (det k fun i l=>d (σ i)*c (σ i) (τ l))=q at*
    rw [show (sm k fun l=>d i*c i (τ l)*(x (τ l)*q))=q*sm k fun l=>d i*c i (τ l)*x (τ l) from by rw [← sm_mul];exact sm_congr fun l _=>by grind]
    grind]
   have:=(Zb.sm fun l hl=>(R.zc i (τ l) hi (h2 l hl)).mul (hcr l hl)).add ((hz i hi).mul hdz)
   rw [← Nat.succ_mul] at this
   exact this
  have:=quot_zb hp ((R.zd i hi).mul hdz) hne rfl
  exact ⟨this.1,Nat.le_trans this.2 (Fk_le k)⟩
theorem small_row {m n0 H:Nat} {c:Nat→Nat→Rat} {d:Nat→Rat} (R:RowsZ m n0 H c d) (hH:1≤H) {D:Dic} (hN:Nz (n0+m) D) (hS:∀ x,Sol (n0+m) D x↔Sol (n0+m) (D0 n0 c) x)
  {v j:Nat} (hv:v < n0+m) (bv:D.B v=true) (hj:j < n0+m):(D.A v j).num.natAbs≤Fk H (cnt n0 D.B+1)∧(D.A v j).den≤Fk H (cnt n0 D.B+1):=by
 by_cases bj:D.B j=true
 ·rw [hN v hv bv j hj bj];exact ⟨Nat.zero_le _,Fk_pos hH _⟩
 ·have bj:D.B j=false:=by simpa using bj
  have hx:=(hS _).1 (fill_sol hN fun i=>if i=j then 1 else 0)
  have hz:∀ i,zr n0 c d D (fill (n0+m) D fun i=>if i=j then 1 else 0) i=if j < n0 then d i*c i j else 0:=by
   intro i
   unfold zr
   by_cases e:j < n0
   ·rw [if_pos e,sm_one j e fun l hl hne=>?_,if_neg (by rw [bj];decide),fill_non bj,if_pos rfl]
    ·grind
    ·by_cases bl:D.B l=true
     ·rw [if_pos bl]
     ·rw [if_neg bl,fill_non (by simpa using bl),if_neg hne];grind
   ·rw [if_neg e]
    refine sm_zero fun l hl=>?_
    by_cases bl:D.B l=true
    ·rw [if_pos bl]
    ·rw [if_neg bl,fill_non (by simpa using bl),if_neg (by omega)];grind
  have h:=small R hH hN hS hx (fun i hi=>by
   rw [hz]
   by_cases e:j < n0
   ·rw [if_pos e];exact R.zc i j hi e
   ·rw [if_neg e];exact Zb.zero H) (fun i hi bi=>by
   rw [hz,fill_non bi]
   by_cases e:j < n0
   ·rw [if_pos e,if_neg (by omega),show d i*0 - d i*c i j = -(d i*c i j) by grind];exact (R.zc i j hi e).neg
   ·rw [if_neg e]
    by_cases e2:n0+i=j
    ·rw [if_pos e2,show d i*1 - 0=d i by grind];exact R.zd i hi
    ·rw [if_neg e2,show d i*0 - 0=0 by grind];exact Zb.zero H) v hv bv
  rw [fill_bas bv,sm_one j hj fun l _ hne=>by rw [if_neg hne];grind,if_pos rfl,Rat.mul_one] at h
  exact h
theorem small_val {m n0 H:Nat} {c:Nat→Nat→Rat} {d:Nat→Rat} (R:RowsZ m n0 H c d) (hH:1≤H) {D:Dic} (hN:Nz (n0+m) D) (hS:∀ x,Sol (n0+m) D x↔Sol (n0+m) (D0 n0 c) x)
  {x h:Nat→Rat} (hx:Sol (n0+m) D x) (h0:∀ j,j < n0→D.B j=false→x j=0) (h1:∀ i,i < m→D.B (n0+i)=false→x (n0+i)=h i) (h2:∀ i,i < m→Zb H (d i*h i))
  {v:Nat} (hv:v < n0+m) (bv:D.B v=true):(x v).num.natAbs≤Fk H (cnt n0 D.B+1)∧(x v).den≤Fk H (cnt n0 D.B+1):=by
 have hz:∀ i,zr n0 c d D x i=0:=fun i=>sm_zero fun l hl=>by
  by_cases bl:D.B l=true
  ·rw [if_pos bl]
  ·rw [if_neg bl,h0 l hl (by simpa using bl)];grind
 refine small R hH hN hS ((hS x).1 hx) (fun i _=>by rw [hz];exact Zb.zero H) (fun i hi bi=>?_) v hv bv
 rw [hz,h1 i hi bi,show d i*h i - 0=d i*h i by grind]
 exact h2 i hi

def stepA (P:Bnd) (s:Stand) (r k:Nat):Rat:=(s.D.A r k)⁻¹*(P.hA r - s.a r)
def stepB (P:Bnd) (s:Stand) (r k:Nat):Rat:=(s.D.A r k)⁻¹*(P.hB r - s.b r)
def mv (P:Bnd) (s:Stand) (r k:Nat):Stand:=
 ⟨piv s.D r k,
  fun u=>if u=r then P.hA r else if u=k then s.a k+stepA P s r k else if s.D.B u=true then s.a u+s.D.A u k*stepA P s r k else s.a u,
  fun u=>if u=r then P.hB r else if u=k then s.b k+stepB P s r k else if s.D.B u=true then s.b u+s.D.A u k*stepB P s r k else s.b u⟩
theorem mv_sol {N:Nat} {D:Dic} (hN:Nz N D) {r k:Nat} (hr:r < N) (hk:k < N) (br:D.B r=true) (bk:D.B k=false) (hp:D.A r k≠0) {x:Nat→Rat} (hx:Sol N D x) (h t:Rat) (ht:t=(D.A r k)⁻¹*(h - x r)):
  Sol N (piv D r k) fun u=>if u=r then h else if u=k then x k+t else if D.B u=true then x u+D.A u k*t else x u:=by
 have hrk:r≠k:=fun e=>by rw [e,bk] at br;cases br
 rw [sol_piv hN hr hk br bk hp]
 intro v hv bv
 have e1:(sm N fun j=>D.A v j*(if j=r then h else if j=k then x k+t else if D.B j=true then x j+D.A j k*t else x j))=(sm N fun j=>D.A v j*x j)+D.A v k*t:=by
  have e2:∀ j,j < N→D.A v j*(if j=r then h else if j=k then x k+t else if D.B j=true then x j+D.A j k*t else x j)=D.A v j*x j+(if j=k then D.A v k*t else 0):=by
   intro j hj
   by_cases e:D.B j=true
   ·have hjk:j≠k:=fun e'=>by rw [e',bk] at e;cases e
    rw [hN v hv bv j hj e,if_neg hjk];grind
   ·have hjr:j≠r:=fun e'=>e (by rw [e'];exact br)
    rw [if_neg hjr]
    by_cases hjk:j=k
    ·subst hjk;rw [if_pos rfl,if_pos rfl];grind
    ·rw [if_neg hjk,if_neg e,if_neg hjk];grind
  rw [sm_congr e2,sm_add,sm_one k hk fun i _ hi=>if_neg hi,if_pos rfl]
 rw [e1,← hx v hv bv]
 have hvk:v≠k:=fun e=>by rw [e,bk] at bv;cases bv
 by_cases e:v=r
 ·subst e
  have:=Rat.mul_inv_cancel _ hp
  simp only [if_true]
  rw [ht];grind
 ·simp only [if_neg e,if_neg hvk,if_pos bv]
theorem mv_ok {P:Bnd} {s:Stand} (hs:s.Ok P) {r k:Nat} (hr:r < P.N) (hk:k < P.N) (br:s.D.B r=true) (bk:s.D.B k=false) (hp:s.D.A r k≠0):(mv P s r k).Ok P:=by
 obtain ⟨h1,h2,h3,h4⟩:=hs
 refine ⟨h1.piv hr hk br bk,mv_sol h1 hr hk br bk hp h2 _ _ rfl,mv_sol h1 hr hk br bk hp h3 _ _ rfl,fun v h0 hv bv=>?_⟩
 have hb:¬ (v=k∨(s.D.B v=true∧v≠r)):=by
  rw [← piv_B]
  show ¬ (mv P s r k).D.B v=true
  rw [bv];decide
 by_cases e:v=r
 ·show (if v=r then _ else _)=_∧(if v=r then _ else _)=_
  rw [if_pos e,if_pos e,e];exact ⟨rfl,rfl⟩
 ·have hvk:v≠k:=fun e=>hb (.inl e)
  have hbv:¬ s.D.B v=true:=fun h=>hb (.inr ⟨h,e⟩)
  show (if v=r then _ else if v=k then _ else if s.D.B v=true then _ else s.a v)=_∧(if v=r then _ else if v=k then _ else if s.D.B v=true then _ else s.b v)=_
  rw [if_neg e,if_neg hvk,if_neg hbv,if_neg e,if_neg hvk,if_neg hbv]
  exact h4 v h0 hv (by simpa using hbv)

structure Pick (P:Bnd) (s:Stand) (r:Nat) (great:Bool):Prop where
 hr:P.n0≤r
 hrN:r < P.N
 br:s.D.B r=true
 over:if great=true then Over P s r else Under P s r
 least:∀ u,P.n0≤u→u < r→s.D.B u=true→¬ Over P s u∧¬ Under P s u
structure Help (P:Bnd) (s:Stand) (r:Nat) (great:Bool) (k:Nat):Prop where
 hk:k < P.N
 bk:s.D.B k=false
 can:CanH P s r great k
 first:∀ j,j < k→s.D.B j=false→¬ CanH P s r great j
theorem Ps.not_both {a b:Rat} (h:Ps a b) (k:Ps (-a) (-b)):False:=by unfold Ps at *;grind
theorem Pick.uniq {P:Bnd} {s:Stand} {r r':Nat} {g g':Bool} (h:Pick P s r g) (h':Pick P s r' g'):r=r'∧g=g':=by
 have key:∀ {r r':Nat} {g g':Bool},Pick P s r g→Pick P s r' g'→¬ r < r':=by
  intro r r' g g' h h' hlt
  have h1:=h'.least r h.hr hlt h.br
  have h2:=h.over
  split at h2
  ·exact h1.1 h2
  ·exact h1.2 h2
 obtain rfl:r=r':=by have:=key h h';have:=key h' h;omega
 refine ⟨rfl,?_⟩
 have h1:=h.over
 have h2:=h'.over
 have hc:Over P s r→Under P s r→False:=fun a b=>Ps.not_both a (by
  rw [show -(s.a r - P.hA r)=P.hA r - s.a r by grind,show -(s.b r - P.hB r)=P.hB r - s.b r by grind];exact b.2)
 cases g <;> cases g'
 ·rfl
 ·exact (hc h2 h1).elim
 ·exact (hc h1 h2).elim
 ·rfl
theorem Help.uniq {P:Bnd} {s:Stand} {r k k':Nat} {g:Bool} (h:Help P s r g k) (h':Help P s r g k'):k=k':=by
 have h1:¬ k < k':=fun hl=>h'.first k hl h.bk h.can
 have h2:¬ k' < k:=fun hl=>h.first k' hl h'.bk h'.can
 omega
theorem Pick.moves {P:Bnd} {s:Stand} {r k:Nat} {g:Bool} (h:Pick P s r g) (h':Help P s r g k):Moves P s (mv P s r k) r k g:=
 ⟨h.hr,h.hrN,h.br,h.over,h.least,h'.hk,h'.bk,h'.can,h'.first,rfl⟩
inductive Run (P:Bnd) (s0:Stand):Nat→Stand→Prop
 | start:Run P s0 0 s0
 | step {n:Nat} {s:Stand} {r k:Nat} {g:Bool}:Run P s0 n s→Pick P s r g→Help P s r g k→Run P s0 (n+1) (mv P s r k)
theorem Run.ok {P:Bnd} {s0 s:Stand} {n:Nat} (h:Run P s0 n s) (h0:s0.Ok P):s.Ok P∧(∀ x,Sol P.N s.D x↔Sol P.N s0.D x)∧cnt P.N s.D.B=cnt P.N s0.D.B:=by
 induction h with
 | start=>exact ⟨h0,fun _=>Iff.rfl,rfl⟩
 | @step n s r k g _ hp hh ih=>
  obtain ⟨h1,h2,h3⟩:=ih
  exact ⟨mv_ok h1 hp.hrN hh.hk hp.br hh.bk hh.can.1,fun x=>(sol_piv h1.1 hp.hrN hh.hk hp.br hh.bk hh.can.1 x).trans (h2 x),(cnt_piv hp.hrN hh.hk hp.br hh.bk).trans h3⟩
theorem Run.zero {P:Bnd} {s0 s:Stand} {n:Nat} (h:Run P s0 n s) (h0:∀ j,j < P.n0→s0.a j=0∧s0.b j=0):∀ j,j < P.n0→s.D.B j=false→s.a j=0∧s.b j=0:=by
 induction h with
 | start=>exact fun j hj _=>h0 j hj
 | @step n s r k g _ hp hh ih=>
  intro j hj bj
  have hb:¬ (j=k∨(s.D.B j=true∧j≠r)):=by
   rw [← piv_B]
   show ¬ (mv P s r k).D.B j=true
   rw [bj];decide
  have hjr:j≠r:=by have:=hp.hr;omega
  have hjk:j≠k:=fun e=>hb (.inl e)
  have hbj:¬ s.D.B j=true:=fun h=>hb (.inr ⟨h,hjr⟩)
  show (if j=r then _ else if j=k then _ else if s.D.B j=true then _ else s.a j)=_∧(if j=r then _ else if j=k then _ else if s.D.B j=true then _ else s.b j)=_
  rw [if_neg hjr,if_neg hjk,if_neg hbj,if_neg hjr,if_neg hjk,if_neg hbj]
  exact ih j hj (by simpa using hbj)
theorem Run.row {P:Bnd} {s0 s:Stand} {n:Nat} (h:Run P s0 n s):∃ (S:Nat→Stand) (r k:Nat→Nat) (g:Nat→Bool),S 0=s0∧S n=s∧(∀ i,i≤n→Run P s0 i (S i))∧∀ i,i < n→Moves P (S i) (S (i+1)) (r i) (k i) (g i):=by
 induction h with
 | start=>exact ⟨fun _=>s0,fun _=>0,fun _=>0,fun _=>false,rfl,rfl,fun i hi=>by rw [Nat.le_zero.1 hi];exact Run.start,fun i hi=>by omega⟩
 | @step n s r k g hr hp hh ih=>
  obtain ⟨S,R,K,G,h1,h2,h3,h4⟩:=ih
  refine ⟨fun i=>if i≤n then S i else mv P s r k,fun i=>if i < n then R i else r,fun i=>if i < n then K i else k,fun i=>if i < n then G i else g,?_,?_,fun i hi=>?_,fun i hi=>?_⟩
  ·dsimp only;rw [if_pos (Nat.zero_le _)];exact h1
  ·dsimp only;rw [if_neg (by omega)]
  ·dsimp only
   by_cases e:i≤n
   ·rw [if_pos e];exact h3 i e
   ·rw [if_neg e,show i=n+1 by omega];exact .step hr hp hh
  ·dsimp only
   by_cases e:i < n
   ·rw [if_pos (by omega),if_pos (by omega),if_pos e,if_pos e,if_pos e];exact h4 i e
   ·obtain rfl:i=n:=by omega
    rw [if_pos (Nat.le_refl _),if_neg (by omega),if_neg (by omega),if_neg (by omega),if_neg (by omega),h2];exact hp.moves hh
theorem Run.few {P:Bnd} {s0 s:Stand} {n:Nat} (h:Run P s0 n s) (h0:s0.Ok P):n < 2 ^ P.N:=by
 obtain ⟨S,r,k,g,h1,h2,h3,h4⟩:=h.row
 exact few_steps P S r k g n (fun i hi=>((h3 i hi).ok h0).1) (fun i j hi hj x hx=>(((h3 j hj).ok h0).2.1 x).2 ((((h3 i hi).ok h0).2.1 x).1 hx)) h4
theorem Run.det {P:Bnd} {s0 s s':Stand} {n:Nat} (h:Run P s0 n s) (h':Run P s0 n s'):s=s':=by
 induction h generalizing s' with
 | start=>cases h';rfl
 | @step n s r k g _ hp hh ih=>
  cases h' with
  | @step _ t r' k' g' h1 hp' hh'=>
   obtain rfl:=ih h1
   obtain ⟨rfl,rfl⟩:=hp.uniq hp'
   obtain rfl:=hh.uniq hh'
   rfl
theorem Run.le {P:Bnd} {s0 s:Stand} {n:Nat} (h:Run P s0 n s):∀ m,m≤n→∃ t,Run P s0 m t:=by
 induction h with
 | start=>
       intro m hm;obtain rfl:m=0:=by omega
       exact ⟨_,.start⟩
 | @step n s r k g h hp hh ih=>
  intro m hm
  by_cases e:m=n+1
  ·subst e;exact ⟨_,.step h hp hh⟩
  ·exact ih m (by omega)
def Ends (P:Bnd) (s:Stand):Prop:=∀ r g k,Pick P s r g→Help P s r g k→False
theorem Run.end_uniq {P:Bnd} {s0 s s':Stand} {n n':Nat} (h:Run P s0 n s) (h':Run P s0 n' s') (e:Ends P s) (e':Ends P s'):s=s':=by
 have key:∀ {n n':Nat} {s s':Stand},Run P s0 n s→Run P s0 n' s'→Ends P s→¬ n < n':=by
  intro n n' s s' h h' e hlt
  obtain ⟨t,ht⟩:=h'.le (n+1) (by omega)
  cases ht with
  | @step _ u r k g h1 hp hh=>
   obtain rfl:=h.det h1
   exact e _ _ _ hp hh
 obtain rfl:n=n':=by have:=key h h' e;have:=key h' h e';omega
 exact h.det h'
noncomputable def leastN (p:Nat→Prop):Nat:=by
 classical
 exact if h:∃ n,p n∧∀ m,p m→n≤m then Classical.choose h else 0
theorem leastN_spec {p:Nat→Prop} (h:∃ n,p n):p (leastN p)∧∀ m,p m→leastN p≤m:=by
 have h2:∃ n,p n∧∀ m,p m→n≤m:=by
  obtain ⟨n,hn⟩:=h
  induction n using Nat.strongRecOn with
  | _ n ih=>
   by_cases hc:∃ m,m < n∧p m
   ·obtain ⟨m,h1,h2⟩:=hc
    exact ih m h1 h2
   ·exact ⟨n,hn,fun m hm=>Classical.byContradiction fun h=>hc ⟨m,by omega,hm⟩⟩
 unfold leastN
 rw [dif_pos h2]
 exact Classical.choose_spec h2
end Go.Sx
