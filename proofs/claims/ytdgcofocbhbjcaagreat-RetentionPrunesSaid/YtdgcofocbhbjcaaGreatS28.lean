/- Part 28 of rules for walks through the code of a program, and of such walks; what each part proves is said by its theorems. -/
import Derived.Test.YtdgcofocbhbjcaaGreatS11
import Derived.Test.YtdgcofocbhbjcaaGreatS13
import Derived.Test.YtdgcofocbhbjcaaGreatS14
import Derived.Test.YtdgcofocbhbjcaaGreatS17
import Derived.Test.YtdgcofocbhbjcaaGreatS27
set_option linter.unusedVariables false
set_option linter.unusedSimpArgs false
noncomputable section
set_option maxRecDepth 100000
set_option maxHeartbeats 4000000
namespace Go.Ev.Rp
open Go Go.Ev.Pp
theorem nG.sym{r r':List DC}(h:nG r r'):nG r' r:=by
 obtain⟨f,t,d,p,w,e,z,h,h'⟩:=h
 exact⟨f,t,p,d,w,z,e,h',h⟩
theorem nD.sym{r r':List DC}(h:nD r r'):nD r' r:=by
 obtain⟨k,d,p,w,e,z,h,h'⟩:=h
 exact⟨k,p,d,w,z,e,h',h⟩
theorem fL.sym{R:List DC→List DC→Prop}(p:∀{r r'},R r r'→R r' r){w w':List (List DC)}(h:fL R w w'):fL R w' w:=⟨h.1.symm,fun q r r' z h2=>p (h.2 q r' r h2 z)⟩
theorem pruned_rel{p:Int}{I z W V:List (List DC)}(h:fL (ra p I) z W)(k:fL (yi p I) z V):fL aaZ W V:=by
 refine⟨h.1.symm.trans k.1,fun q r r' J h2=>?_⟩
 have L:q<z.length:=by have:=(List.getElem?_eq_some_iff.1 J).1;have:=h.1;omega
 have h0:z[q]?=some z[q]:=dz L
 obtain⟨M,v,v',O,U,f,f',c,Y,x,y,w,e,rfl,⟨Z,w2,m1,m2,m3,_⟩,⟨w3,m4,m5⟩,⟨w4,m6,m7⟩,⟨w5,w6,m8,m9,A,_⟩,F,G⟩:=h.2 q _ _ h0 J
 obtain⟨nm2,v2,lx,f2,c2,x2,x',w0,K,rfl,n1,n2⟩:=k.2 q _ _ h0 h2
 rw[e] at K
 cases K
 obtain rfl:=aR.uniq F n1
 exact⟨M,v',v,U,O,f',f,Y,c,y,x',aa,aa,⟨w2,Z,m2,m1,fL.sym nG.sym m3⟩,⟨w3,m5,m4⟩,⟨w4,m7,m6⟩,⟨w6,w5,m9,m8,fL.sym nD.sym A⟩,⟨_,G,n2⟩⟩
theorem pruned_ok{F:Int}{K A W:List (List DC)}{nv mv:Nat}(h:fL (ra F K) A W)(L:aH (fJ nv mv) A):aH (fJ nv mv) W:=fun r M=>by
 obtain⟨q,O,rfl⟩:=List.mem_iff_getElem.1 M
 have h0:A[q]?=some (A[q]'(by have:=h.1;omega)):=dz _
 have U:W[q]?=some W[q]:=dz O
 obtain⟨nm,v,v',kk,k',f,f',c,c',x,y,w,e,Y,⟨w1,w2,Z,m2,m3,o1⟩,⟨w3,m4,m5⟩,⟨w4,m6,m7⟩,⟨w5,w6,m8,m9,G,o2⟩,I,J⟩:=h.2 q _ _ h0 U
 have p:=nu L h0
 rw[e] at p
 rw[Y]
 obtain⟨_,_,z,p1,p⟩:=b0 p;cases z
 obtain⟨_,_,z,p2,p⟩:=b0 p;cases z
 obtain⟨_,_,z,p3,p⟩:=b0 p;cases z
 obtain⟨_,_,z,p4,p⟩:=b0 p;cases z
 obtain⟨_,_,z,p5,p⟩:=b0 p;cases z
 obtain⟨_,_,z,p6,p⟩:=b0 p;cases z
 obtain⟨u2,i2,l2,_⟩:=Ty.au p2
 obtain rfl:=aR.uniq i2 Z
 obtain⟨u3,i3,l3,r3⟩:=Ty.au p3
 obtain rfl:=aR.uniq i3 m4
 obtain⟨u4,i4,l4,r4⟩:=Ty.au p4
 obtain rfl:=aR.uniq i4 m6
 obtain⟨u5,i5,l5,_⟩:=Ty.au p5
 obtain rfl:=aR.uniq i5 m8
 obtain⟨u6,i6,l6,r6⟩:=Ty.au p6
 obtain rfl:=aR.uniq i6 I
 exact ao p1 (ao (au m2 (by have:=m3.1;omega) o1) (ao (au m5 l3 r3) (ao (au m7 l4 r4) (ao (au m9 (by have:=G.1;omega) o2) (ao (au J (fY (Yx _ _) l6) (UA r6)) bm)))))
theorem lawPrunes{T:bC}(F:FT T)(hA:Sound T 8 [] fun r=>r=dB true){aQ:Int}(Z:0≤aQ)(wP:aQ≤65535){aB:Int}(nd:0≤aB)(mB:aB≤65535){bk:Int}(sz:0≤bk)(sA:bk≤65535){aO:Int}(oN:0≤aO)(oO:aO≤65535){bc:Int}(pL:0≤bc)(pM:bc≤65535){bH:Int}(Af:0≤bH)(Ag:bH≤65535){bA:Int}(wQ:0≤bA)(wS:bA≤65535){bI:Int}(nX:0≤bI)(nY:bI≤65535){a1 a3:DC}{wl Y:List (List DC)}(hdl:aR wl a1)(KZ:wl.length≤9223372036854775807)(hrl:aH tU9 wl){hz:Int}(lh: -9223372036854775808≤hz)(uh:hz≤9223372036854775807)(A:aR Y a3)(J:aH fy Y):
  Sound T 5 [.agg [dU aQ,dU aB,dU bk,dU aO,dU bc,dU bH,dU bA,dU bI],.d a1,.d (dJ hz),.d a3] fun r=>r=dB true:=by
 refine ch F.q5 aa (aj (af 2 aa (aA (aj (ak 1 aa (ai (bu aa A ?_)))))))
 refine af 1 aa (db aa (fun h1=>?_) (fun h1=>?_))
 ·refine aj (ai (Y5 hA aa aa ?_))
  exact af 1 aa (ay (aE aa aa aa))
 have hlen:Y.length≤20:=by
  have:¬(20:Int)<(Y.length:Int):=by simpa using h1
  omega
 refine aG (aj (ak 2 aa (ai (aY aa (aV aa) (CommitsC F Z wP nd mB sz sA oN oO pL pM Af Ag wQ wS nX nY hdl KZ hrl (hU:=10) aD aD) (fun r1 _ p=>?_)))))
 obtain⟨y1,kH,rfl,O,hny1,U⟩:=p
 refine ai (aY aa (aV aa) (PlayN F O ax U) (fun r2 _ iu=>?_))
 obtain⟨p0,p1,p2,wp2,p4,p5,p6,rfl,K,p,I,hnp2,z, -, -,eo,G,L⟩:=iu
 refine af 2 aa (aj (af 3 aa (aj (af 3 aa (cN (bP aa (Y5 hA aa aa ?_)))))))
 refine aP 1 aa (AD aa aa (iw aa aa (aX aa) (aX aa) ?_))
 refine AD aa aa (aY aa (aV aa) (PruneC F I ax z K p lh uh A hlen J L aD aD) (fun r3 _ fv=>?_))
 obtain⟨yP,y4,W,rfl,hW,hy4,M⟩:=fv
 refine AD aa aa (iw aa aa (aX aa) (aX aa) ?_)
 refine AD aa aa (aY aa (aV aa) (pruneR F K p I ax z lh uh A hlen J L aD aD) (fun r4 _ G=>?_))
 obtain⟨yR,wR,rfl,hdR,hnR,hrR, -,hqR⟩:=G
 have hWl:W.length≤16:=by have:=M.1;omega
 refine AD aa aa (aY aa (aV aa) (sameDbS F K p hW hWl (pruned_ok M z) (az lh uh) hy4 ax J bl hdR hrR (pruned_rel M hqR) A L aD aD) (fun r5 _ G=>?_))
 subst G
 refine aU (L0 aa aa ?_)
 exact cP 1 aa (ay (aE aa aa aa))
end Go.Ev.Rp
namespace Go.Ev
open Go
mutual
def ka.ty:ka→Ty
 |.i k=>.i k k.min k.max
 |.b=>.b
 |.s=>.s maxLen
 |.sl row=>.l maxLen (Qm row)
def Qm:List ka→List Ty
 |[]=>[]
 |p::ps=>p.ty::Qm ps
end
mutual
theorem fits_ok:∀{p:ka}{d:DC},p.fits d→p.ty.ok d
 |.i k,d,h=>by
  simp only[ka.fits] at h
  obtain⟨n,rfl,z⟩:=h
  have h2:k.min≤n∧n≤k.max:=by simpa[Lit.wf] using z
  exact az h2.1 h2.2
 |.b,d,h=>by
  simp only[ka.fits] at h
  obtain⟨n,rfl⟩:=h
  exact bQ
 |.s,d,h=>by
  simp only[ka.fits] at h
  obtain⟨s,rfl,h2⟩:=h
  exact aJ h2
 |.sl row,d,h=>by
  simp only[ka.fits] at h
  rcases h with rfl|⟨rows,rfl,h2,A⟩
  ·exact bl
  exact ok_sl h2 fun r F=>T0 (A r F)
theorem T0:∀{ps:List ka}{l:List DC},jq ps l→fF (Qm ps) l
 |[],l,h=>by
  simp only[jq] at h
  subst h
  exact bm
 |p::ps,l,h=>by
  simp only[jq] at h
  obtain⟨d,r,rfl,z,h2⟩:=h
  exact ao (fits_ok z) (T0 h2)
end
end Go.Ev
